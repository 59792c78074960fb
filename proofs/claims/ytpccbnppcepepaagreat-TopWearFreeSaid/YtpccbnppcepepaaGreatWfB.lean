/- Lemmas towards the statement: the engine of the walks, the functions' models, laws and walks, part 2. Conditions: as each states. -/
import Derived.Lib.AppendStr
import Derived.Lib.Builder
import Derived.Lib.Mul64
import Derived.Lib.UnsafeStr
import Derived.Test.YtpccbnppcepepaaGreatWfA
set_option linter.all false
set_option maxRecDepth 100000
namespace Go.Eng
open Go.RowKit
structure Con where
 args:List T
 res:List T
 F:Zua args→Option (Zua res)
structure ConO where
 args:List T
 ty:TypeId
 t:T
 F:Zua args→Option (List t.den)
structure ConI where
 ty:TypeId
 t:T
 F:List t.den→Int→t.den→Option (List t.den)
structure Cf where
 P:Program
 leafs:List (TypeId×Nat)
 cons:List (FuncId×Con)
 mats:List Nat
 owns:List (FuncId×ConO)
 ins:List (FuncId×ConI)
 meths:List ((TypeId×String)×FuncId)
def lkM:List ((TypeId×String)×FuncId)→TypeId→String→Option FuncId
 | [],_,_=>none
 | p :: r,t,m=>match Nat.beq p.1.1 t,p.1.2==m with
  | true,true=>some p.2
  | _,_=>lkM r t m
def codeF (f:TypeId→Option T):TypeId→List Field→Option T
 | t,[]=>f t
 | t,h :: r=>match f t,codeF f h.type r with
  | some a,some b=>some (.pair a b)
  | _,_=>none
def ZGe (a:T):Nat→T
 | 0=>.one a
 | 1=>.one a
 | 2=>.pair a a
 | k+3=>.pair a (ZGe a (k+2))
def Zxd (a:T):(n:Nat)→(ZGe a n).den→List a.den
 | 0,_=>[]
 | 1,x=>[x]
 | 2,x=>[x.1,x.2]
 | k+3,x=>x.1 :: Zxd a (k+2) x.2
def Zpd (C:Cf):Nat→TypeId→Option T
 | 0,_=>none
 | g+1,t=>match ZJa C.leafs t with
  | some i=>some (.leaf i)
  | none=>match C.P.underlying t with
   | some (.int k)=>some (.int k)
   | some .bool=>some .bool
   | some (.float k)=>some (.flt k)
   | some .string=>some .str
   | some (.slice e)=>match Zpd C g e with
    | some a=>some (.slice a)
    | none=>none
   | some (.array n e)=>match Zpd C g e,Nat.blt 0 n with
    | some a,true=>some (ZGe a n)
    | _,_=>none
   | some (.struct fs)=>match fs.toList with
    | []=>none
    | [f]=>match Zpd C g f.type with
     | some a=>some (.one a)
     | none=>none
    | f :: h :: r=>codeF (Zpd C g) f.type (h :: r)
   | _=>none
def zeroLf:(i:Nat)→Option (Zvk i)
 | 0=>some (0:Nat)
 | 1=>some (0:Nat)
 | 2=>some (0:Int)
 | 3=>some (0:Rat)
 | _=>none
def ZVe:(t:T)→Option t.den
 | .int _=>some (0:Int)
 | .bool=>some false
 | .flt _=>some (0:Nat)
 | .str=>some ([]:List UInt8)
 | .one a=>ZVe a
 | .pair a b=>match ZVe a,ZVe b with
  | some x,some y=>some (x,y)
  | _,_=>none
 | .slice _=>some []
 | .leaf i=>zeroLf i
def zSl:List Value→Option (List Value)
 | .slice none 0 0 :: r=>some r
 | _=>none
def zOK:T→List Value→Option (List Value)
 | .int k,.int k' n :: r=>match kEq k k',n with
  | true,.ofNat 0=>some r
  | _,_=>none
 | .bool,.bool false :: r=>some r
 | .flt k,.float k' 0 :: r=>match fEqK k k' with
  | true=>some r
  | false=>none
 | .str,.string s :: r=>match s.data.toList with
  | []=>some r
  | _=>none
 | .one a,cs=>zOK a cs
 | .pair a b,cs=>match zOK a cs with
  | some r=>zOK b r
  | none=>none
 | .slice _,cs=>zSl cs
 | .leaf 0,cs=>zSl cs
 | .leaf 1,cs=>zSl cs
 | .leaf 2,.bool false :: cs=>zSl cs
 | .leaf 3,.bool false :: cs=>match zSl cs with
  | some r=>zSl r
  | none=>none
 | _,_=>none
def ZMe (t:T) (cs:List Value):Option (V×List Value):=match ZVe t,zOK t cs with
 | some x,some r=>some (.data t x,r)
 | _,_=>none
def Zgj (f:TypeId→List Value→Option (V×List Value)):List Field→List Value→Option (V×List Value)
 | [],cs=>some (.nl,cs)
 | h :: r,cs=>match f h.type cs with
  | some (v,cs)=>match Zgj f r cs with
   | some (c,cs)=>some (.cons v c,cs)
   | none=>none
  | none=>none
def zRep (f:List Value→Option (V×List Value)):Nat→List Value→Option (V×List Value)
 | 0,cs=>some (.nl,cs)
 | k+1,cs=>match f cs with
  | some (v,cs)=>match zRep f k cs with
   | some (c,cs)=>some (.cons v c,cs)
   | none=>none
  | none=>none
def Zsh (C:Cf):Nat→TypeId→List Value→Option (V×List Value)
 | 0,_,_=>none
 | g+1,t,cs=>match ZJa C.leafs t with
  | some 4=>match cs with
   | .bool false :: .slice none 0 0 :: .slice none 0 0 :: r=>some (.agg (.cons (.data .bool false) (.cons (.data (.leaf 1) (0:Nat)) (.cons (.data (.leaf 1) (0:Nat)) .nl))),r)
   | _=>none
  | some i=>ZMe (.leaf i) cs
  | none=>match C.P.underlying t with
   | some (.int k)=>ZMe (.int k) cs
   | some .bool=>ZMe .bool cs
   | some (.float k)=>ZMe (.flt k) cs
   | some .string=>ZMe .str cs
   | some (.slice _)=>match zSl cs with
    | some r=>some (.nilS,r)
    | none=>none
   | some (.struct fs)=>match Zgj (Zsh C g) fs.toList cs with
    | some (c,r)=>some (.agg c,r)
    | none=>none
   | some (.array n e)=>match zRep (Zsh C g e) n cs with
    | some (c,r)=>some (.agg c,r)
    | none=>none
   | _=>none
def ZDi (C:Cf) (t:TypeId):Option V:=match C.P.info? t with
 | some i=>match i.zero with
  | some z=>match Zsh C FU t z.cells.toList with
   | some (v,[])=>some v
   | _=>none
  | none=>none
 | none=>none
def aggD:TypeDesc→Bool
 | .struct _=>true
 | .array _ _=>true
 | _=>false
def szA (P:Program) (t:TypeId):Option (Nat×Bool):=match P.info? t,P.underlying t with
 | some i,some d=>some (i.size,aggD d)
 | _,_=>none
def fldA (P:Program) (s:TypeId) (f:Nat):Option Nat:=match P.underlying s with
 | some (.struct fs)=>match fs.toList[f]? with
  | some h=>match P.info? h.type with
   | some i=>match Nat.blt 0 i.size with
    | true=>some h.offset
    | false=>none
   | none=>none
  | none=>none
 | _=>none
def fldT (P:Program) (s:TypeId) (f:Nat):Option Field:=match P.underlying s with
 | some (.struct fs)=>fs.toList[f]?
 | _=>none
def Zfh (P:Program) (t:TypeId):Option (TypeId×Nat):=match P.underlying t with
 | some (.slice e)=>match P.info? e with
  | some i=>some (e,i.size)
  | none=>none
 | _=>none
structure EI where
 e:TypeId
 sz:Nat
 by_:Nat
 z:Value
def Z1e (P:Program) (t:TypeId):Option EI:=match P.underlying t with
 | some (.slice e)=>match P.info? e with
  | some i=>match i.zero with
   | some z=>match Nat.beq z.cells.toList.length i.size,Nat.blt 0 i.size,Nat.blt 0 i.bytes with
    | true,true,true=>some ⟨e,i.size,i.bytes,z⟩
    | _,_,_=>none
   | none=>none
  | none=>none
 | _=>none
def ZTi:Value→Option V
 | .bool b=>some (.data .bool b)
 | .int k n=>if inR k n then some (.data (.int k) n) else none
 | .float k n=>if n<18446744073709551616 then some (.data (.flt k) n) else none
 | .string s=>if s.data.toList.length≤maxLen then some (.data .str s.data.toList) else none
 | .slice none 0 0=>some .nilS
 | _=>none
def opd {ρ:Type} (x:Operand) (k:V→Ev ρ):Ev ρ:=match x with
 | .tmp t=>.rdS t k
 | .const c=>match ZTi c with
  | some v=>k v
  | none=>.fail
 | .func f=>k (.fn f .nl)
 | .global _=>.fail
def ret (o:Oper) (v:V):Ev Unit:=match o.dst with
 | some d=>.wrS d v (.done ())
 | none=>.fail
def Zxb {ρ:Type} (v:V) (k:IntKind→Int→Ev ρ):Ev ρ:=match v with
 | .data (.int κ) x=>k κ x
 | _=>.fail
def ZDk {ρ:Type} (v:V) (k:Bool→Ev ρ):Ev ρ:=match v with
 | .data .bool x=>k x
 | _=>.fail
def nthV:V→Nat→Option V
 | .cons a _,0=>some a
 | .cons _ b,n+1=>nthV b n
 | _,_=>none
def appV:V→V→V
 | .cons a b,c=>.cons a (appV b c)
 | _,c=>c
def binI {ρ:Type} (op:BinOp) (κ:IntKind) (x y:Int) (k:V→Ev ρ):Ev ρ:=match op with
 | .add=>match κ.signed with
  | true=>.bind (chk κ (x+y)) fun z=>k (.data (.int κ) z)
  | false=>k (.data (.int κ) (κ.wrap (x+y)))
 | .sub=>match κ.signed with
  | true=>.bind (chk κ (x-y)) fun z=>k (.data (.int κ) z)
  | false=>k (.data (.int κ) (κ.wrap (x-y)))
 | .mul=>match κ.signed with
  | true=>.bind (chk κ (x*y)) fun z=>k (.data (.int κ) z)
  | false=>k (.data (.int κ) (κ.wrap (x*y)))
 | .quo=>.bind (quo κ x y) fun z=>k (.data (.int κ) z)
 | .rem=>.bind (rem κ x y) fun z=>k (.data (.int κ) z)
 | .and=>k (.data (.int κ) (Z0 κ x y))
 | .or=>k (.data (.int κ) (orI κ x y))
 | .lss=>k (.data .bool (decide (x<y)))
 | .leq=>k (.data .bool (decide (x≤y)))
 | .gtr=>k (.data .bool (decide (y<x)))
 | .geq=>k (.data .bool (decide (y≤x)))
 | .eql=>k (.data .bool (x==y))
 | .neq=>k (.data .bool (x != y))
 | _=>.fail
def binE {ρ:Type} (P:Program) (op:BinOp) (t:TypeId) (v v':V) (k:V→Ev ρ):Ev ρ:=match v,v' with
 | .data (.int κ) x,.data (.int κ') y=>match op with
  | .shl=>.bind (Zfc κ x y) fun z=>k (.data (.int κ) z)
  | .shr=>.bind (Zaa κ x y) fun z=>k (.data (.int κ) z)
  | op=>match kEq κ κ' with
   | true=>binI op κ x y k
   | false=>.fail
 | .data .bool (x:Bool),.data .bool (y:Bool)=>match P.underlying t with
  | some .bool=>match op with
   | .eql=>k (.data .bool (x==y))
   | .neq=>k (.data .bool (x != y))
   | _=>.fail
  | _=>.fail
 | .data .str (x:List UInt8),.data .str (y:List UInt8)=>match op with
  | .add=>.bind (ZWb (x++y)) fun _=>k (.data .str (x++y))
  | .eql=>k (.data .bool (x==y))
  | .neq=>k (.data .bool (x != y))
  | _=>.fail
 | _,_=>.fail
def ldE {ρ:Type} (P:Program) (t:TypeId) (p:V) (k:V→Ev ρ):Ev ρ:=match szA P t with
 | none=>.fail
 | some s=>match p with
  | .ptr u off=>.rdL u fun _ L=>match L with
   | .box _ c=>match Zfa FU c off s.1 s.2 with
    | some z=>k z
    | none=>.fail
   | _=>.fail
  | .el u _ cv e x off=>.rdL u fun cv' L=>match L with
   | .own _ _ _ _=>match Nat.beq cv' cv with
    | true=>match Zfa FU (.data e x) off s.1 s.2 with
     | some z=>k z
     | none=>.fail
    | false=>.fail
   | _=>.fail
  | .vp e x off=>match Zfa FU (.data e x) off s.1 s.2 with
   | some z=>k z
   | none=>.fail
  | .rp u i hv cv e r=>.rdL u fun cv' L=>match L with
   | .mat _ _ _ _ hv'=>match Nat.beq hv' hv,Nat.beq cv' cv,s.2 with
    | true,true,false=>k (.row u i hv cv e r)
    | _,_,_=>.fail
   | _=>.fail
  | .rel u _ _ hv cv e _ x off=>.rdL u fun cv' L=>match L with
   | .mat _ _ _ _ hv'=>match Nat.beq hv' hv,Nat.beq cv' cv with
    | true,true=>match Zfa FU (.data e x) off s.1 s.2 with
     | some z=>k z
     | none=>.fail
    | _,_=>.fail
   | _=>.fail
  | _=>.fail
def V.plain:V→Bool
 | .undef | .tup _=>false
 | .cons a b=>match a.plain with
  | true=>b.plain
  | false=>false
 | .agg c=>c.plain
 | _=>true
def V.fit (v:V):Bool:=match v.plain,v.isAgg with
 | true,true=>true
 | true,false=>Nat.beq v.size 1
 | false,_=>false
def Z7b (s t:T) (l:List s.den):Option (List t.den):=T.cast (.slice s) (.slice t) l
def Zzb (s t:T) (m:List (List s.den)):Option (List (List t.den)):=T.cast (.slice (.slice s)) (.slice (.slice t)) m
def eqN (i j:Nat):Option Unit:=if i=j then some () else none
def ZUb {α:Type} (m:List (List α)) (i j:Nat):List (List α):=(m.set i (m.getD j [])).set j (m.getD i [])
def stE (P:Program) (nid:Nat) (t:TypeId) (p v:V):Ev Unit:=match szA P t with
 | none=>.fail
 | some q=>match Nat.beq v.size q.1,eqB v.isAgg q.2,v.fit with
  | true,true,true=>match p with
   | .ptr u off=>.rdL u fun _ L=>match L with
    | .box ty c=>match ZPa FU c off v with
     | some c'=>.wrL u (.box ty c') (.done ())
     | none=>.fail
    | _=>.fail
   | .el u i cv s x off=>match ZPa FU (.data s x) off v with
    | some z=>conv FU s z fun y=>.rdL u fun cv' L=>match L with
     | .own ty s' l false=>match Nat.beq off 0,Nat.beq v.size s.n,Nat.beq cv' cv with
      | true,true,_=>match T.cast s s' y with
       | some y'=>.wrL u (.own ty s' (l.set i y') false) (.done ())
       | none=>.fail
      | _,_,true=>match T.cast s s' y with
       | some y'=>.wrL u (.own ty s' (l.set i y') false) (.done ())
       | none=>.fail
      | _,_,_=>.fail
     | _=>.fail
    | none=>.fail
   | .rp u i _ _ _ _=>match v with
    | .own u2=>.rdL u fun _ L=>match L with
     | .mat ty ty2 s m _=>.rdL u2 fun _ L2=>match L2 with
      | .own ty3 s' l false=>match Nat.beq ty3 ty2,Z7b s' s l with
       | true,some l'=>.del u2 (.wrL u (.mat ty ty2 s (m.set i l') nid) (.done ()))
       | _,_=>.fail
      | _=>.fail
     | .mid ty ty2 s m _ (.hol j)=>.bind (eqN i j) fun _=>.rdL u2 fun _ L2=>match L2 with
      | .own ty3 s' l false=>match Nat.beq ty3 ty2,Z7b s' s l with
       | true,some l'=>.del u2 (.wrL u (.mat ty ty2 s (m.set i l') nid) (.done ()))
       | _,_=>.fail
      | _=>.fail
     | _=>.fail
    | .row u2 j hv2 _ _ _=>.rdL u fun _ L=>match L with
     | .mat ty ty2 s m hv=>match Nat.beq u2 u,Nat.beq hv hv2 with
      | true,true=>.wrL u (.mid ty ty2 s m hv (.swp i j)) (.done ())
      | _,_=>.fail
     | .mid ty ty2 s m hv (.swp i0 j0)=>match Nat.beq u2 u,Nat.beq hv hv2 with
      | true,true=>.bind (eqN i j0) fun _=>.bind (eqN j i0) fun _=>.wrL u (.mat ty ty2 s (ZUb m i0 j0) nid) (.done ())
      | _,_=>.fail
     | _=>.fail
    | _=>.fail
   | .rel u i j hv cv s r x off=>match ZPa FU (.data s x) off v with
    | some z=>.rdL u fun _ L0=>match L0 with
     | .mat _ _ _ _ _=>conv FU s z fun y=>.rdL u fun cv' L=>match L with
      | .mat ty ty2 s' m hv'=>match Nat.beq hv' hv,Nat.beq cv' cv with
       | true,true=>match Z7b s s' (r.set j y) with
        | some r'=>.wrL u (.mat ty ty2 s' (m.set i r') hv') (.done ())
        | none=>.fail
       | _,_=>.fail
      | _=>.fail
     | _=>.fail
    | none=>.fail
   | _=>.fail
  | _,_,_=>.fail
def onM (C:Cf) (o:Oper):Bool:=match o.dst with
 | some d=>Zwc C.mats d
 | none=>false
def onT (C:Cf) (o:Oper):Bool:=match o.dst with
 | some d=>Zwc C.mats (d+100000)
 | none=>false
def takeE (P:Program) (o:Oper) (nid:Nat) (t:TypeId) (p:V):Ev Unit:=match szA P t with
 | none=>.fail
 | some s=>match p,s.2 with
  | .rp u i hv cv e r,false=>.rdL u fun cv' L=>match L with
   | .mat ty ty2 s' m hv'=>match Nat.beq hv' hv,Nat.beq cv' cv,Z7b e s' r with
    | true,true,some z=>.wrL u (.mid ty ty2 s' m hv' (.hol i)) (.new nid (.own ty2 s' z false) (ret o (.own nid)))
    | _,_,_=>.fail
   | _=>.fail
  | _,_=>.fail
def shift:V→Nat→Option V
 | .ptr u off,k=>some (.ptr u (off+k))
 | .vp t x off,k=>some (.vp t x (off+k))
 | .el u i cv t x off,k=>some (.el u i cv t x (off+k))
 | .rel u i j hv cv t r x off,k=>some (.rel u i j hv cv t r x (off+k))
 | _,_=>none
def live {ρ:Type} (v:V) (k:Ev ρ):Ev ρ:=match v with
 | .ptr u _=>.rdL u fun _ L=>match L with
  | .box _ _=>k
  | _=>.fail
 | .vp _ _ _=>k
 | .el u _ _ _ _ _=>.rdL u fun _ L=>match L with
  | .own _ _ _ _=>k
  | _=>.fail
 | .rel u _ _ hv _ _ _ _ _=>.rdL u fun _ L=>match L with
  | .mat _ _ _ _ hv'=>match Nat.beq hv' hv with
   | true=>k
   | false=>.fail
  | _=>.fail
 | _=>.fail
def ixA (P:Program) (o:Oper) (t:TypeId) (v:V) (j:Int):Ev Unit:=match P.underlying t with
 | some (.array n e)=>match P.info? e,decide (0≤j),decide (j<n) with
  | some i,true,true=>match shift v (j.toNat*i.size) with
   | some z=>live v (ret o z)
   | none=>.fail
  | _,_,_=>.fail
 | _=>.fail
def alts (P:Program) (o:Oper) (t:TypeId) (v:V) (j:Int):Nat→Nat→Ev Unit
 | 0,_=>.fail
 | m+1,k=>.alt (decide (j=(k:Int))) (ixA P o t v (k:Int)) (alts P o t v j m (k+1))
def altE (P:Program) (o:Oper) (t:TypeId) (v:V) (j:Int):Ev Unit:=match P.underlying t with
 | some (.array n _)=>alts P o t v j n 0
 | _=>.fail
def onA (C:Cf) (o:Oper):Bool:=match o.dst with
 | some d=>Zwc C.mats (d+200000)
 | none=>false
def ixE (P:Program) (o:Oper) (t:TypeId) (v:V) (j:Int):Ev Unit:=match Zfh P t with
 | none=>ixA P o t v j
 | some q=>match v with
  | .own u=>.rdL u fun cv L=>match L with
   | .own _ s l _=>match Nat.beq q.2 s.n with
    | true=>.bind (idx l j) fun y=>ret o (.el u j.toNat cv s y 0)
    | false=>.fail
   | .mat _ _ s m hv=>match Nat.beq q.2 1 with
    | true=>.bind (idx m j) fun r=>ret o (.rp u j.toNat hv cv s r)
    | false=>.fail
   | .mid _ _ s m hv _=>match Nat.beq q.2 1 with
    | true=>.bind (idx m j) fun r=>ret o (.rp u j.toNat hv cv s r)
    | false=>.fail
   | _=>.fail
  | .data (.slice s) l=>match Nat.beq q.2 s.n with
   | true=>.bind (idx l j) fun y=>ret o (.vp s y 0)
   | false=>.fail
  | .data (.leaf 0) (n:Nat)=>match Nat.beq q.2 1 with
   | true=>.bind (idx (Zd 18446744073709551616 n) j) fun y=>ret o (.vp (.int .u64) y 0)
   | false=>.fail
  | .data (.leaf 1) (n:Nat)=>match Nat.beq q.2 1 with
   | true=>.bind (idx (Zd 4294967296 n) j) fun y=>ret o (.vp (.int .u32) y 0)
   | false=>.fail
  | .row u i hv cv s r=>.rdL u fun cv' L=>match L with
   | .mat _ _ _ _ hv'=>match Nat.beq hv' hv,Nat.beq cv' cv,Nat.beq q.2 s.n with
    | true,true,true=>.bind (idx r j) fun y=>ret o (.rel u i j.toNat hv cv s r y 0)
    | _,_,_=>.fail
   | _=>.fail
  | _=>.fail
def lenE {ρ:Type} (P:Program) (t:TypeId) (v:V) (k:Nat→Ev ρ):Ev ρ:=match v with
 | .data .str (s:List UInt8)=>match P.underlying t with
  | some .string=>k s.length
  | _=>.fail
 | v=>match Zfh P t with
  | none=>.fail
  | some _=>match v with
   | .own u=>.rdL u fun _ L=>match L with
    | .own _ _ l _=>k l.length
    | .mat _ _ _ m _=>k m.length
    | _=>.fail
   | .data (.slice _) l=>k l.length
   | .data (.leaf 0) (n:Nat)=>k (Zd 18446744073709551616 n).length
   | .data (.leaf 1) (n:Nat)=>k (Zd 4294967296 n).length
   | .row u _ hv _ _ r=>.rdL u fun _ L=>match L with
    | .mat _ _ _ _ hv'=>match Nat.beq hv' hv with
     | true=>k r.length
     | _=>.fail
    | _=>.fail
   | _=>.fail
def fldE {ρ:Type} (P:Program) (s:TypeId) (f:Nat) (v:V) (k:V→Ev ρ):Ev ρ:=match fldA P s f with
 | some h=>match shift v h with
  | some z=>live v (k z)
  | none=>.fail
 | none=>.fail
def Znd {ρ:Type}:List Operand→(V→Ev ρ)→Ev ρ
 | [],k=>k .nl
 | x :: r,k=>opd x fun v=>match v with
  | .tup _=>.fail
  | v=>Znd r fun c=>k (.cons v c)
def Zig {ρ:Type}:(ts:List T)→V→(Zua ts→Ev ρ)→Ev ρ
 | [],.nl,k=>k ()
 | [t],.cons v .nl,k=>conv FU t v k
 | t :: u :: r,.cons v c,k=>conv FU t v fun x=>Zig (u :: r) c fun y=>k (x,y)
 | _,_,_=>.fail
def convS {ρ:Type} (t:T):V→(List t.den→Ev ρ)→Ev ρ
 | .nl,k=>k []
 | .cons v c,k=>conv FU t v fun x=>convS t c fun l=>k (x :: l)
 | _,_=>.fail
def resV:(ts:List T)→Zua ts→V
 | [],_=>.nl
 | [t],x=>.cons (.data t x) .nl
 | t :: u :: r,x=>.cons (.data t x.1) (resV (u :: r) x.2)
def ZBe:V→V
 | .cons v .nl=>v
 | c=>.tup c
def appM (o:Oper) (nid:Nat) (q:EI) (p:Option Nat) (v':V):Ev Unit:=match v' with
 | .own u2=>.rdL u2 fun _ L2=>match L2 with
  | .mat ty' ty2' s' m' _=>match p with
   | none=>match Nat.beq q.e ty',Nat.beq q.sz 1 with
    | true,true=>.bind (Z2 q.by_ ([]++m')) fun _=>.del u2 (.new nid (.mat ty' ty2' s' ([]++m') nid) (ret o (.own nid)))
    | _,_=>.fail
   | some u=>match Nat.beq u u2 with
    | true=>.fail
    | false=>.rdL u fun _ L=>match L with
     | .mat ty ty2 s m _=>match Zzb s' s m',Nat.beq ty ty',Nat.beq ty2 ty2',Nat.beq q.e ty,Nat.beq q.sz 1 with
      | some m2,true,true,true,true=>.bind (Z2 q.by_ (m++m2)) fun _=>.del u2 (.del u (.new nid (.mat ty ty2 s (m++m2) nid) (ret o (.own nid))))
      | _,_,_,_,_=>.fail
     | _=>.fail
  | _=>.fail
 | _=>.fail
def appE (C:Cf) (o:Oper) (nid:Nat) (t:TypeId) (v v':V):Ev Unit:=match Z1e C.P t with
  | none=>.fail
  | some q=>match v with
    | .own u=>.rdL u fun _ L=>match L with
      | .own _ s _ _=>conv FU (.slice s) v' fun y=>.rdL u fun _ L=>match L with
        | .own ty s' l false=>match Z7b s s' y,Nat.beq q.e ty,Nat.beq q.sz s'.n with
          | some y',true,true=>.bind (Z2 q.by_ (l++y')) fun _=>.del u (.new nid (.own ty s' (l++y') false) (ret o (.own nid)))
          | _,_,_=>.fail
        | _=>.fail
      | .mat _ _ _ _ _=>appM o nid q (some u) v'
      | _=>.fail
    | .row u i hv cv s r=>conv FU (.slice s) v' fun (y:List s.den)=>.rdL u fun cv' L=>match L with
      | .mat ty ty2 s' m hv'=>match Nat.beq hv' hv,Nat.beq cv' cv,Z7b s s' (r++y),Nat.beq q.e ty2,Nat.beq q.sz s'.n with
        | true,true,some z,true,true=>.bind (Z2 q.by_ z) fun _=>.wrL u (.mid ty ty2 s' m hv' (.hol i)) (.new nid (.own ty2 s' z false) (ret o (.own nid)))
        | _,_,_,_,_=>.fail
      | _=>.fail
    | .nilS=>match onM C o with
     | true=>appM o nid q none v'
     | false=>match Zpd C FU q.e with
      | some s=>match Nat.beq q.sz s.n with
        | true=>conv FU (.slice s) v' fun (y:List s.den)=>.bind (Z2 q.by_ ([]++y)) fun _=>.new nid (.own q.e s ([]++y) false) (ret o (.own nid))
        | false=>.fail
      | none=>.fail
    | _=>.fail
def putF (P:Program) (s:TypeId):V→List (Nat×V)→Option V
 | z,[]=>some z
 | z,p :: r=>match fldT P s p.1 with
  | some h=>match szA P h.type with
   | some q=>match Nat.beq p.2.size q.1,p.2.fit,ZPa FU z h.offset p.2 with
    | true,true,some z'=>putF P s z' r
    | _,_,_=>none
   | none=>none
  | none=>none
def putA (n sz:Nat):V→List (Nat×V)→Option V
 | z,[]=>some z
 | z,p :: r=>match Nat.blt p.1 n,Nat.beq p.2.size sz,p.2.fit,ZPa FU z (p.1*sz) p.2 with
  | true,true,true,some z'=>putA n sz z' r
  | _,_,_,_=>none
def Zzj (P:Program):List Field→Bool
 | []=>true
 | h :: r=>match P.info? h.type with
  | some _=>Zzj P r
  | none=>false
def zipV:List (Nat×Operand)→V→List (Nat×V)
 | p :: r,.cons v c=>(p.1,v) :: zipV r c
 | _,_=>[]
def Zhf:V→V
 | .data t x=>match Zjd t x with
  | some c=>.agg c
  | none=>.data t x
 | v=>v
def Zei:Nat→List (Nat×Operand)→Bool
 | _,[]=>true
 | k,p :: r=>match Nat.beq p.1 k with
  | true=>Zei (k+1) r
  | false=>false
def ZDf:Option Int→Int→Int
 | some h,_=>h
 | none,n=>n
def cutE (P:Program) (o:Oper) (t:TypeId) (v:V) (lo hi:Option Int):Ev Unit:=match v with
 | .data (.slice s) l=>match Zfh P t with
  | some q=>match Nat.beq q.2 s.n with
   | true=>.bind (Zqc l (ZDf lo 0) (ZDf hi (l.length:Int))) fun y=>ret o (.data (.slice s) y)
   | false=>.fail
  | none=>.fail
 | .data .str (l:List UInt8)=>match P.underlying t with
  | some .string=>.bind (Zqc l (ZDf lo 0) (ZDf hi (l.length:Int))) fun y=>ret o (.data .str y)
  | _=>.fail
 | _=>.fail
def optI {ρ:Type} (x:Option Operand) (k:Option Int→Ev ρ):Ev ρ:=match x with
 | none=>k none
 | some x=>opd x fun v=>Zxb v fun _ i=>k (some i)
def insE (nid:Nat) (o:Oper) (c:ConI):V→Ev Unit
 | .cons a (.cons (.data (.int .i64) (i:Int)) (.cons (.own u2) .nl))=>.rdL u2 fun _ L2=>match L2 with
  | .own ty2 s2 l2 false=>match Nat.beq ty2 c.ty,Z7b s2 c.t l2 with
   | true,some [x]=>.del u2 (match a with
    | .own u=>.rdL u fun _ L=>match L with
     | .own ty s l false=>match Nat.beq ty c.ty,Z7b s c.t l with
      | true,some l'=>.bind (c.F l' i x) fun z=>.del u (.new nid (.own c.ty c.t z false) (ret o (.own nid)))
      | _,_=>.fail
     | _=>.fail
    | .nilS=>.bind (c.F [] i x) fun z=>.new nid (.own c.ty c.t z false) (ret o (.own nid))
    | _=>.fail)
   | _,_=>.fail
  | _=>.fail
 | _=>.fail
def arrE (C:Cf) (o:Oper) (t:TypeId) (s u off:Nat) (lo hi:Option Int):Ev Unit:=match Nat.beq off 0,lo,hi,C.P.underlying t with
 | true,none,none,some (.array n e)=>match Zpd C FU e,szA C.P e,Nat.blt 0 n,Nat.ble n 1000 with
  | some a,some q,true,true=>match Nat.beq q.1 a.n with
   | true=>.rdL u fun _ L=>match L with
    | .box _ c=>conv FU (ZGe a n) c fun x=>.rdL u fun _ L2=>match L2 with
     | .box _ _=>.del u (.wrS s (.vp (ZGe a n) x 0) (ret o (.data (.slice a) (Zxd a n x))))
     | _=>.fail
    | _=>.fail
   | false=>.fail
  | _,_,_,_=>.fail
 | _,_,_,_=>.fail
def Z2i (C:Cf) (nid:Nat) (o:Oper) (f:FuncId) (args:V):Ev Unit:=match ZJa C.cons f with
 | some c=>Zig c.args args fun p=>.bind (c.F p) fun z=>ret o (ZBe (resV c.res z))
 | none=>match ZJa C.owns f with
  | some c=>Zig c.args args fun p=>.bind (c.F p) fun z=>.new nid (.own c.ty c.t z false) (ret o (.own nid))
  | none=>match ZJa C.ins f with
   | some c=>insE nid o c args
   | none=>.fail
def ZY (C:Cf) (nid:Nat) (o:Oper):Ev Unit:=match o.op with
  | .move x=>opd x (ret o)
  | .assign x=>opd x (ret o)
  | .pick (.tmp c) a b=>.test c (opd a (ret o)) (opd b (ret o))
  | .extract x i=>opd x fun v=>match v with
    | .tup c=>match nthV c i with
      | some z=>ret o z
      | none=>.fail
    | _=>.fail
  | .alloc t=>match ZDi C t with
    | some z=>.new nid (.box t z) (ret o (.ptr nid 0))
    | none=>.fail
  | .box t x=>opd x fun v=>match v.fit with
    | true=>.new nid (.box t v) (ret o (.ptr nid 0))
    | false=>.fail
  | .load t x=>opd x fun p=>match onT C o with
    | true=>takeE C.P o nid t p
    | false=>ldE C.P t p (ret o)
  | .store t x y=>match o.dst with
    | none=>opd x fun p=>opd y fun v=>stE C.P nid t p v
    | some _=>.fail
  | .fieldAddr s x f=>opd x fun v=>fldE C.P s f v (ret o)
  | .field s x f=>opd x fun v=>match fldT C.P s f,v.isAgg with
    | some h,true=>match szA C.P h.type with
      | some q=>match Zfa FU v h.offset q.1 q.2 with
        | some z=>ret o z
        | none=>.fail
      | none=>.fail
    | _,_=>.fail
  | .indexAddr t x i=>opd x fun v=>opd i fun w=>Zxb w fun _ j=>match onA C o with
    | true=>altE C.P o t v j
    | false=>ixE C.P o t v j
  | .index t x i=>opd x fun v=>opd i fun w=>Zxb w fun _ j=>match v with
    | .data .str (l:List UInt8)=>match C.P.underlying t with
      | some .string=>.bind (idx l j) fun (y:UInt8)=>ret o (.data (.int .u8) ((y.toNat:Nat):Int))
      | _=>.fail
    | v=>match C.P.underlying t with
      | some (.array n e)=>match szA C.P e,v.isAgg,decide (0≤j),decide (j<n) with
        | some q,true,true,true=>match Zfa FU v (j.toNat*q.1) q.1 q.2 with
          | some z=>ret o z
          | none=>.fail
        | _,_,_,_=>.fail
      | _=>.fail
  | .binOp op t x y _=>opd x fun v=>opd y fun w=>binE C.P op t v w (ret o)
  | .unOp .not _ x=>opd x fun v=>ZDk v fun b=>ret o (.data .bool (!b))
  | .unOp .neg _ x=>opd x fun v=>Zxb v fun κ i=>ret o (.data (.int κ) (κ.wrap (-i)))
  | .convert s d x=>opd x fun v=>match v,C.P.underlying s,C.P.underlying d with
    | .data (.int κ) i,some _,some (.int κ')=>match kEq κ κ' with
      | true=>ret o (.data (.int κ) i)
      | false=>ret o (.data (.int κ') (κ'.wrap i))
    | .data .str (l:List UInt8),some .string,some .string=>ret o (.data .str l)
    | _,_,_=>.fail
  | .makeFunc (.func f) first cap=>match first.toList with
    | []=>Znd cap.toList fun c=>ret o (.fn f c)
    | _=>.fail
  | .makeInterface t x=>opd x fun v=>match v.fit with
    | true=>match C.P.underlying t with
      | some (.interface _)=>.fail
      | some _=>ret o (.ifc t v)
      | none=>.fail
    | false=>.fail
  | .makeSlice t l c=>opd l fun v=>opd c fun w=>Zxb v fun _ i=>Zxb w fun _ j=>match Z1e C.P t,o.dst with
    | some q,some d=>.bind (mk q.by_ i j) fun _=>match Zwc C.mats d with
      | true=>match Z1e C.P q.e,zSl q.z.cells.toList,Nat.beq q.sz 1 with
        | some q2,some _,true=>match Zpd C FU q2.e with
          | some s=>match Nat.beq q2.sz s.n with
            | true=>.new nid (.mat q.e q2.e s (List.replicate i.toNat []) nid) (ret o (.own nid))
            | false=>.fail
          | none=>.fail
        | _,_,_=>.fail
      | false=>match Zpd C FU q.e with
        | some s=>match ZVe s,zOK s q.z.cells.toList,Nat.beq q.sz s.n with
          | some z,some _,true=>.new nid (.own q.e s (List.replicate i.toNat z) false) (ret o (.own nid))
          | _,_,_=>.fail
        | none=>.fail
    | _,_=>.fail
  | .buildSlice t n ps=>match Z1e C.P t with
    | some q=>match onM C o with
     | true=>match n,ps.toList with
      | 1,[(0,x)]=>opd x fun v=>match v,Z1e C.P q.e,zSl q.z.cells.toList with
        | .own u2,some q2,some _=>.rdL u2 fun _ L=>match L with
          | .own ty2 s l false=>match Nat.beq q2.e ty2,Nat.beq q2.sz s.n,Nat.beq q.sz 1 with
            | true,true,true=>.del u2 (.new nid (.mat q.e ty2 s [l] nid) (ret o (.own nid)))
            | _,_,_=>.fail
          | _=>.fail
        | _,_,_=>.fail
      | _,_=>.fail
     | false=>match Zpd C FU q.e,Zei 0 ps.toList,Nat.beq ps.toList.length n,Nat.ble (n*q.sz) 16777216 with
      | some s,true,true,true=>match Nat.beq q.sz s.n with
        | true=>Znd (ps.toList.map (·.2)) fun c=>convS s c fun l=>.new nid (.own q.e s l false) (ret o (.own nid))
        | false=>.fail
      | _,_,_,_=>.fail
    | none=>.fail
  | .build t ps=>match ZDi C t,C.P.underlying t with
    | some z,some (.struct fs)=>match Zzj C.P fs.toList,(Zhf z).isAgg,z.isAgg with
      | true,true,true=>match ps.toList with
        | []=>ret o z
        | l=>Znd (l.map (·.2)) fun c=>match putF C.P t (Zhf z) (zipV l c) with
          | some z'=>ret o z'
          | none=>.fail
      | _,_,_=>.fail
    | some z,some (.array n e)=>match C.P.info? e,(Zhf z).isAgg,z.isAgg with
      | some i,true,true=>Znd (ps.toList.map (·.2)) fun c=>match putA n i.size (Zhf z) (zipV ps.toList c) with
        | some z'=>ret o z'
        | none=>.fail
      | _,_,_=>.fail
    | _,_=>.fail
  | .slice t x lo hi none=>optI lo fun i=>optI hi fun j=>opd x fun v=>match v with
    | .own u=>.rdL u fun _ L=>match L with
      | .own _ s _ _=>conv FU (.slice s) v fun l=>cutE C.P o t (.data (.slice s) l) i j
      | _=>.fail
    | .data (.leaf 0) (n:Nat)=>cutE C.P o t (.data (.slice (.int .u64)) (Zd 18446744073709551616 n)) i j
    | .data (.leaf 1) (n:Nat)=>cutE C.P o t (.data (.slice (.int .u32)) (Zd 4294967296 n)) i j
    | .ptr u off=>match x with
      | .tmp s=>arrE C o t s u off i j
      | _=>.fail
    | v=>cutE C.P o t v i j
  | .call c=>match c.callee with
    | .builtin .len=>match c.args.toList,c.argTypes.toList with
      | [x],[t]=>opd x fun v=>lenE C.P t v fun n=>ret o (.data (.int .i64) (n:Int))
      | _,_=>.fail
    | .builtin .append=>match c.args.toList,c.argTypes.toList with
      | [x,y],[t,t']=>match Nat.beq t t' with
        | true=>opd x fun v=>opd y fun w=>appE C o nid t v w
        | false=>.fail
      | _,_=>.fail
    | .builtin .max=>match c.args.toList with
      | [x,y]=>opd x fun v=>opd y fun w=>Zxb v fun κ i=>Zxb w fun κ' j=>match kEq κ κ' with
        | true=>ret o (.data (.int κ) (max i j:Int))
        | false=>.fail
      | [x,y,z]=>opd x fun v=>opd y fun w=>opd z fun u=>Zxb v fun κ i=>Zxb w fun κ' j=>Zxb u fun κ'' k=>match kEq κ κ',kEq κ κ'' with
        | true,true=>ret o (.data (.int κ) (max (max i j) k:Int))
        | _,_=>.fail
      | _=>.fail
    | .builtin .min=>match c.args.toList with
      | [x,y]=>opd x fun v=>opd y fun w=>Zxb v fun κ i=>Zxb w fun κ' j=>match kEq κ κ' with
        | true=>ret o (.data (.int κ) (min i j:Int))
        | false=>.fail
      | _=>.fail
    | .value x=>opd x fun fv=>Znd c.args.toList fun ags=>match fv with
      | .fn f .nl=>Z2i C nid o f ags
      | _=>.fail
    | .invoke x m=>opd x fun r=>Znd c.args.toList fun ags=>match r with
      | .ifc t v=>match lkM C.meths t m with
        | some f=>Z2i C nid o f (.cons v ags)
        | none=>.fail
      | _=>.fail
    | _=>.fail
  | _=>.fail
def Zmf (o:Oper):Ev Unit:=match o.dst with
 | some d=>.wrS d .undef (.done ())
 | none=>.done ()
def gop (C:Cf) (ops:List Oper) (nid:Nat) (o:Oper):Ev Unit:=match o.guard with
 | none=>ZY C nid o
 | some (j,w)=>match ops[j]? with
  | some q=>match q.dst with
   | some t=>.rdS t fun x=>match x with
    | .undef=>Zmf o
    | .data .bool _=>match w with
     | true=>.test t (ZY C nid o) (Zmf o)
     | false=>.test t (Zmf o) (ZY C nid o)
    | _=>.fail
   | none=>.fail
  | none=>.fail
structure Fp where
 rs:Nat
 ws:Nat
 rl:Nat
 wl:Nat
def Fp.no:Fp:=⟨0,0,0,0⟩
def bit (m k:Nat):Nat:=Nat.lor m (Nat.pow 2 k)
def Z3a {ρ α:Type} (n:Nat):Ev ρ→Fr→Lo→Fp→(ρ→Fr→Lo→Fp→Option α)→Option α
 | .fail,_,_,_,_=>none
 | .done r,f,l,p,K=>K r f l p
 | .rdS t k,f,l,p,K=>match lkE f t with
  | some x=>Z3a n (k x.x) f l ⟨bit p.rs t,p.ws,p.rl,p.wl⟩ K
  | none=>none
 | .rdL u k,f,l,p,K=>match lkE l u with
  | some x=>Z3a n (k x.st x.x) f l ⟨p.rs,p.ws,bit p.rl u,p.wl⟩ K
  | none=>none
 | .wrS t x e,f,l,p,K=>Z3a n e (⟨t,n,x⟩ :: f) l ⟨p.rs,bit p.ws t,p.rl,p.wl⟩ K
 | .wrL u L e,f,l,p,K=>Z3a n e f (⟨u,n,L⟩ :: era l u) ⟨p.rs,p.ws,p.rl,bit p.wl u⟩ K
 | .new u L e,f,l,p,K=>match lkE l u with
  | none=>Z3a n e f (⟨u,n,L⟩ :: l) ⟨p.rs,p.ws,bit p.rl u,bit p.wl u⟩ K
  | some _=>none
 | .del u e,f,l,p,K=>Z3a n e f (era l u) ⟨p.rs,p.ws,p.rl,bit p.wl u⟩ K
 | .bind x k,f,l,p,K=>bnd x fun y=>Z3a n (k y) f l p K
 | .test t e1 e2,f,l,p,K=>match lkE f t with
  | some ⟨_,s,.data .bool b⟩=>ifb b (Z3a n e1 (⟨t,s,.data .bool true⟩ :: f) l ⟨bit p.rs t,p.ws,p.rl,p.wl⟩ K) (Z3a n e2 (⟨t,s,.data .bool false⟩ :: f) l ⟨bit p.rs t,p.ws,p.rl,p.wl⟩ K)
  | _=>none
 | .alt b e1 e2,f,l,p,K=>ifb b (Z3a n e1 f l p K) (Z3a n e2 f l p K)
def Fp.free (p q:Fp):Bool:=Nat.beq (Nat.lor (Nat.lor (Nat.land p.ws (Nat.lor q.rs q.ws)) (Nat.land p.rs q.ws)) (Nat.lor (Nat.land p.wl (Nat.lor q.rl q.wl)) (Nat.land p.rl q.wl))) 0
def Zmc (done:List Nat):List Edge→Nat→Nat
 | [],m=>m
 | e :: r,m=>match Region.binds .any e with
  | true=>Zmc done r (Nat.lor (bit m e.on) (done.getD e.on 0))
  | false=>Zmc done r m
def ZOa:List Oper→List Nat→List Nat
 | [],done=>done
 | o :: r,done=>ZOa r (done++[Zmc done o.after.toList 0])
def chk1 (m:Nat) (q:Fp):List Fp→Nat→Bool
 | [],_=>true
 | p :: r,i=>match Nat.testBit m i with
  | true=>chk1 m q r (i+1)
  | false=>match p.free q with
   | true=>chk1 m q r (i+1)
   | false=>false
def Ztd:List Fp→List Nat→List Fp→Bool
 | _,_,[]=>true
 | bef,m :: ms,q :: qs=>match chk1 m q bef 0 with
  | true=>Ztd (bef++[q]) ms qs
  | false=>false
 | _,[],_ :: _=>false
def Zsg (i:Nat):List Edge→Bool
 | []=>true
 | e :: r=>match Region.binds .any e with
  | true=>match Nat.blt e.on i with
   | true=>Zsg i r
   | false=>false
  | false=>Zsg i r
def ZKd:Nat→List Oper→Bool
 | _,[]=>true
 | i,o :: r=>match Zsg i o.after.toList with
  | true=>ZKd (i+1) r
  | false=>false
def sm:Nat→(Nat→Rat)→Rat
 | 0,_=>0
 | n+1,f=>sm n f+f n
theorem Zja {n:Nat} {f g:Nat→Rat} (h:∀ j,j<n→f j=g j):sm n f=sm n g:=by
 induction n with
 | zero=>rfl
 | succ n ih=>simp only [sm];rw [ih fun j hj=>h j (by omega),h n (by omega)]
theorem Z8d (n:Nat) (f g:Nat→Rat):sm n (fun j=>f j+g j)=sm n f+sm n g:=by
 induction n with
 | zero=>show (0:Rat)=0+0;grind
 | succ n ih=>simp only [sm];rw [ih];grind
theorem ZRb (n:Nat) (c:Rat) (f:Nat→Rat):sm n (fun j=>c*f j)=c*sm n f:=by
 induction n with
 | zero=>show (0:Rat)=c*0;grind
 | succ n ih=>simp only [sm];rw [ih];grind
theorem ZCd {n:Nat} {f:Nat→Rat} (h:∀ j,j<n→f j=0):sm n f=0:=by
 induction n with
 | zero=>rfl
 | succ n ih=>simp only [sm];rw [ih fun j hj=>h j (by omega),h n (by omega)];grind
theorem Z0f {n k:Nat} {f:Nat→Rat} (hk:k<n) (h:∀ j,j<n→j≠k→f j=0):sm n f=f k:=by
 induction n with
 | zero=>omega
 | succ n ih =>
  simp only [sm];by_cases e:k=n
  ·subst e;rw [ZCd fun j hj=>h j (by omega) (by omega)];grind
  ·rw [ih (by omega) fun j hj hne=>h j (by omega) hne,h n (by omega) (by omega)];grind
theorem Zwh (n:Nat) (f g:Nat→Rat):sm n (fun j=>f j-g j)=sm n f-sm n g:=by
 induction n with
 | zero=>show (0:Rat)=0-0;grind
 | succ n ih=>simp only [sm];rw [ih];grind
theorem ZYi (n m:Nat) (f:Nat→Nat→Rat):sm n (fun i=>sm m (f i))=sm m (fun j=>sm n fun i=>f i j):=by
 induction n with
 | zero=>exact (ZCd fun j hj=>rfl).symm
 | succ n ih =>
  simp only [sm];rw [ih,← Z8d]
abbrev Mx:=Nat→Nat→Rat
def Ker (R n:Nat) (M:Mx) (v:Nat→Rat):Prop:=∀ i,i<R→sm n (fun j=>M i j*v j)=0
structure StepR (R n:Nat) (M M':Mx) (c top p:Nat):Prop where
 tp:top≤p
 pR:p<R
 cn:c<n
 nz:M p c≠0
 tr:∀ j,j<n→M' top j=M p j / M p c
 pr:p≠top→∀ j,j<n→M' p j=M top j-M top c*(M p j / M p c)
 ot:∀ i,i<R→i≠top→i≠p→∀ j,j<n→M' i j=M i j-M i c*(M p j / M p c)
theorem StepR.ker {R n:Nat} {M M':Mx} {c top p:Nat} (h:StepR R n M M' c top p) (v:Nat→Rat):Ker R n M' v↔Ker R n M v:=by
 have htR:top<R:=by have:=h.tp;have:=h.pR;omega
 have hf:=h.nz;have st:sm n (fun j=>M' top j*v j)=sm n (fun j=>M p j*v j) / M p c:=by
  rw [Zja (g:=fun j=>(1 / M p c)*(M p j*v j)) fun j hj=>by rw [h.tr j hj];grind];rw [ZRb];grind
 have so:∀ (r:Nat→Rat) (r':Nat→Rat) (q:Rat),(∀ j,j<n→r' j=r j-q*(M p j / M p c))→sm n (fun j=>r' j*v j)=sm n (fun j=>r j*v j)-q*(sm n (fun j=>M p j*v j) / M p c):=fun r r' q hr=>by
  rw [Zja (g:=fun j=>r j*v j-(q / M p c)*(M p j*v j)) fun j hj=>by rw [hr j hj];grind];rw [Zwh,ZRb];grind
 constructor
 ·intro k;have k0:=k top htR;rw [st] at k0;have hp0:sm n (fun j=>M p j*v j)=0:=by grind
  intro i hi;by_cases hip:i=p
  ·subst hip;exact hp0
  ·by_cases hit:i=top
   ·subst hit;have:=k p h.pR;rw [so _ _ _ (h.pr (fun e=>hip e.symm)),hp0] at this;grind
   ·have:=k i hi;rw [so _ _ _ (h.ot i hi hit hip),hp0] at this;grind
 ·intro k;have hp0:=k p h.pR;intro i hi;by_cases hit:i=top
  ·subst hit;rw [st,hp0];grind
  ·by_cases hip:i=p
   ·subst hip;rw [so _ _ _ (h.pr hit),k top htR,hp0];grind
   ·rw [so _ _ _ (h.ot i hi hit hip),k i hi,hp0];grind
structure Eli (R n:Nat) (M0 M:Mx) (piv:List Nat) (k:Nat):Prop where
 le:piv.length≤R
 lt:∀ c,c ∈ piv→c<k
 inc:piv.Pairwise (· < ·)
 one:∀ j c,piv[j]? = some c→∀ i,i<R→M i c=if i=j then 1 else 0
 low:∀ i,piv.length≤i→i<R→∀ c,c<k→M i c=0
 left:∀ j c,piv[j]? = some c→∀ d,d<c→M j d=0
 ker:∀ v,Ker R n M v↔Ker R n M0 v
 rsp:∃ E:Mx,∀ i,i<R→∀ j,j<n→M i j=sm R fun k=>E i k*M0 k j
theorem Eli.start (R n:Nat) (M:Mx):Eli R n M M [] 0 :=
 ⟨Nat.zero_le _,fun c h=>by simp at h,List.Pairwise.nil,fun j c h=>by simp at h,fun i _ _ c h=>by omega,fun j c h=>by simp at h,fun v=>Iff.rfl,fun i k=>if k=i then 1 else 0,fun i hi j hj=>by
  rw [Z0f hi fun k hk hne=>by show (if k=i then (1:Rat) else 0)*M k j=0;rw [if_neg hne];exact Rat.zero_mul _]
  show M i j=(if i=i then (1:Rat) else 0)*M i j
  rw [if_pos rfl];exact (Rat.one_mul _).symm⟩
theorem Eli.skip {R n k:Nat} {M0 M:Mx} {piv:List Nat} (h:Eli R n M0 M piv k) (hz:∀ i,piv.length≤i→i<R→M i k=0):Eli R n M0 M piv (k+1) :=
 ⟨h.le,fun c hc=>by have:=h.lt c hc;omega,h.inc,h.one,fun i h1 h2 c hc=>by
  rcases Nat.lt_or_ge c k with h3 | h3
  ·exact h.low i h1 h2 c h3
  ·rw [show c=k by omega];exact hz i h1 h2,h.left,h.ker,h.rsp⟩
theorem alg1 (a b c:Rat):a / c*b=1 / c*(a*b):=by grind
theorem alg2 (x y b c q:Rat):(x-q*(y / c))*b=x*b-q / c*(y*b):=by grind
theorem alg3 (x s c q:Rat):x-q / c*s=x-q*(s / c):=by grind
theorem alg4 (s c:Rat):s / c=1 / c*s:=by grind
theorem Eli.step {R n k p:Nat} {M0 M M':Mx} {piv:List Nat} (h:Eli R n M0 M piv k) (s:StepR R n M M' k piv.length p):Eli R n M0 M' (piv++[k]) (k+1):=by
 have tp:=s.tp;have pR:=s.pR;have cn:=s.cn;have hf:=s.nz;have top:∀ d,d<k→M p d=0:=fun d hd=>h.low p tp pR d hd;have get:∀ j c,(piv++[k])[j]? = some c→(j<piv.length∧piv[j]? = some c∧c<k)∨(j=piv.length∧c=k):=fun j c hj=>by
  rcases Nat.lt_or_ge j piv.length with h1 | h1
  ·rw [List.getElem?_append_left h1] at hj;exact .inl ⟨h1,hj,h.lt c (List.mem_of_getElem? hj)⟩
  ·rw [List.getElem?_append_right h1] at hj;obtain ⟨h2,h3⟩:=List.getElem?_eq_some_iff.1 hj;simp at h2 h3;exact .inr ⟨by omega,by first | exact h3.symm | exact h3⟩
 have row:∀ i,i<R→i≠piv.length→∀ d,d<n→M p d=0→M' i d=if i=p then M piv.length d else M i d:=fun i hi hit d hd hz=>by
  by_cases hip:i=p
  ·subst hip;rw [if_pos rfl,s.pr hit d hd,hz];grind
  ·rw [if_neg hip,s.ot i hi hit hip d hd,hz];grind
 refine ⟨by simp;omega,fun c hc=>?_,?_,fun j c hj i hi=>?_,fun i h1 h2 d hd=>?_,fun j c hj d hd=>?_,fun v=>(s.ker v).trans (h.ker v),?_⟩
 ·rcases List.mem_append.1 hc with h1 | h1
  ·have:=h.lt c h1;omega
  ·rw [List.mem_singleton.1 h1];omega
 ·refine List.pairwise_append.2 ⟨h.inc,List.pairwise_singleton _ _,fun a ha b hb=>?_⟩;rw [List.mem_singleton.1 hb];exact h.lt a ha
 ·rcases get j c hj with ⟨g1,g2,g3⟩ | ⟨rfl,rfl⟩
  ·have hp:M p c=0:=top c g3;by_cases hit:i=piv.length
   ·subst hit;rw [s.tr c (by omega),hp,if_neg (by omega)];grind
   ·rw [row i hi hit c (by omega) hp];by_cases hip:i=p
    ·subst hip;rw [if_pos rfl,h.one j c g2 piv.length (by omega),if_neg (by omega),if_neg (by omega)]
    ·rw [if_neg hip,h.one j c g2 i hi]
  ·by_cases hit:i=piv.length
   ·subst hit;rw [if_pos rfl,s.tr c cn];grind
   ·rw [if_neg hit];by_cases hip:i=p
    ·subst hip;rw [s.pr hit c cn];grind
    ·rw [s.ot i hi hit hip c cn];grind
 ·simp at h1;by_cases hdk:d=k
  ·subst hdk;by_cases hip:i=p
   ·subst hip;rw [s.pr (by omega) d cn];grind
   ·rw [s.ot i h2 (by omega) hip d cn];grind
  ·have hd:d<k:=by omega
   rw [row i h2 (by omega) d (by omega) (top d hd)];split
   ·exact h.low _ (Nat.le_refl _) (by omega) d hd
   ·exact h.low i (by omega) h2 d hd
 ·rcases get j c hj with ⟨g1,g2,g3⟩ | ⟨rfl,rfl⟩
  ·rw [row j (by omega) (by omega) d (by omega) (top d (by omega)),if_neg (by omega)];exact h.left j c g2 d hd
  ·rw [s.tr d (by omega),top d hd];grind
 ·obtain ⟨E,hE⟩:=h.rsp;have htR:piv.length<R:=by omega
  have cmb:∀ (x y:Nat→Rat) (q:Rat) (j:Nat),sm R (fun l=>(x l-q*(y l / M p k))*M0 l j)=sm R (fun l=>x l*M0 l j)-q*(sm R (fun l=>y l*M0 l j) / M p k):=fun x y q j=>by
   rw [Zja (g:=fun l=>x l*M0 l j-(q / M p k)*(y l*M0 l j)) fun l hl=>alg2 _ _ _ _ _,Zwh,ZRb,alg3]
  refine ⟨fun i l=>if i=piv.length then E p l / M p k else (if i=p then E piv.length l else E i l)-(if i=p then M piv.length k else M i k)*(E p l / M p k),fun i hi j hj=>?_⟩;by_cases hit:i=piv.length
  ·subst hit;simp only [if_true];rw [s.tr j hj,hE p pR j hj,Zja (g:=fun l=>(1 / M p k)*(E p l*M0 l j)) fun l hl=>alg1 _ _ _,ZRb,alg4]
  ·simp only [if_neg hit];by_cases hip:i=p
   ·subst hip;simp only [if_true];rw [s.pr hit j hj,cmb,← hE i pR j hj,← hE piv.length htR j hj]
   ·simp only [if_neg hip];rw [s.ot i hi hit hip j hj,cmb,← hE p pR j hj,← hE i hi j hj]
theorem Z0g {l:List Nat} (h:l.Pairwise (· < ·)) {i j:Nat} {a b:Nat} (hi:l[i]? = some a) (hj:l[j]? = some b) (hij:i<j):a<b:=by
 obtain ⟨h1,h2⟩:=List.getElem?_eq_some_iff.1 hi;obtain ⟨h3,h4⟩:=List.getElem?_eq_some_iff.1 hj;have:=List.pairwise_iff_getElem.1 h i j h1 h3 hij;rw [h2,h4] at this;exact this
theorem inc_inj {l:List Nat} (h:l.Pairwise (· < ·)) {i j:Nat} {a:Nat} (hi:l[i]? = some a) (hj:l[j]? = some a):i=j:=by
 rcases Nat.lt_trichotomy i j with h1 | h1 | h1
 ·have:=Z0g h hi hj h1;omega
 ·exact h1
 ·have:=Z0g h hj hi h1;omega
theorem Zal {l:List Nat} (h:l.Pairwise (· < ·)):∀ {i a:Nat},l[i]? = some a→i≤a
 | 0,_,_=>Nat.zero_le _
 | i+1,a,hi=>by
  have hlt:=(List.getElem?_eq_some_iff.1 hi).1
  have h1:l[i]? = some l[i]:=List.getElem?_eq_getElem (by omega)
  have:=Zal h h1
  have:=Z0g h h1 hi (by omega)
  omega
theorem Zmm {l:List Nat} {n:Nat} (h:l.Pairwise (· < ·)) (hn:∀ c,c ∈ l→c<n):l.length≤n:=by
 rcases Nat.eq_zero_or_pos l.length with h0 | h0
 ·omega
 ·have h1:l[l.length-1]? = some l[l.length-1]:=List.getElem?_eq_getElem (by omega);have:=Zal h h1;have:=hn _ (List.mem_of_getElem? h1);omega
theorem ZDq {l:List Nat} {n:Nat} (h:l.Pairwise (· < ·)) (hn:∀ c,c ∈ l→c<n) (hl:l.length=n):∀ j,j<n→l[j]? = some j:=by
 have key:∀ k,k<n→∀ a,l[n-1-k]? = some a→a≤n-1-k:=fun k=>by
  induction k with
  | zero =>
   intro hk a ha;have:=hn _ (List.mem_of_getElem? ha);omega
  | succ k ih =>
   intro hk a ha;have h1:l[n-1-k]? = some l[n-1-k]:=List.getElem?_eq_getElem (by omega);have:=ih (by omega) _ h1;have:=Z0g h ha h1 (by omega);omega
 intro j hj;have h1:l[j]? = some l[j]:=List.getElem?_eq_getElem (by omega);have h2:=Zal h h1;have h3:=key (n-1-j) (by omega) l[j] (by rw [show n-1-(n-1-j)=j by omega];exact h1);rw [h1];congr 1;omega
section
variable {R n:Nat} {M0 M:Mx} {piv:List Nat}
theorem Eli.row (h:Eli R n M0 M piv n) {i c:Nat} (hc:piv[i]? = some c) (v:Nat→Rat):sm n (fun j=>M i j*v j)=v c+sm n (fun j=>if j ∈ piv then 0 else M i j*v j):=by
 have hi:i<R:=by have:=(List.getElem?_eq_some_iff.1 hc).1;have:=h.le;omega
 have hcn:c<n:=h.lt c (List.mem_of_getElem? hc);have e:sm n (fun j=>M i j*v j)=sm n (fun j=>(if j ∈ piv then M i j*v j else 0)+(if j ∈ piv then 0 else M i j*v j)):=Zja fun j hj=>by split <;> grind
 rw [e,Z8d];congr 1;rw [Z0f hcn fun j hj hne=>?_]
 ·rw [if_pos (List.mem_of_getElem? hc),h.one i c hc i hi,if_pos rfl];grind
 ·split
  ·rename_i hm;obtain ⟨k,hk⟩:=List.getElem?_of_mem hm;rw [h.one k j hk i hi,if_neg (fun e=>by subst e;rw [hc] at hk;cases hk;exact hne rfl)];grind
  ·rfl
theorem Eli.ker_iff (h:Eli R n M0 M piv n) (v:Nat→Rat):Ker R n M0 v ↔ ∀ i c,piv[i]? = some c→v c+sm n (fun j=>if j ∈ piv then 0 else M i j*v j)=0:=by
 rw [← h.ker v];constructor
 ·intro k i c hc;rw [← h.row hc];have:=(List.getElem?_eq_some_iff.1 hc).1;exact k i (by have:=h.le;omega)
 ·intro k i hi;rcases Nat.lt_or_ge i piv.length with h1 | h1
  ·have hc:piv[i]? = some piv[i]:=List.getElem?_eq_getElem h1;rw [h.row hc];exact k i _ hc
  ·exact ZCd fun j hj=>by rw [h.low i h1 hi j hj];grind
theorem Eli.full (h:Eli R n M0 M piv n) (hl:piv.length=n) (v:Nat→Rat) (hv:Ker R n M0 v):∀ j,j<n→v j=0:=by
 intro j hj;have hf:=ZDq h.inc h.lt hl;have:=(h.ker_iff v).1 hv j j (hf j hj);rw [ZCd fun d hd=>by rw [if_pos (List.mem_of_getElem? (hf d hd))]] at this;grind
def kv (M:Mx) (piv:List Nat) (j:Nat):Nat→Rat:=fun d=>if d=j then 1 else match piv.idxOf? d with
 | some i=>- M i j
 | none=>0
theorem ZVi {l:List Nat} (h:l.Pairwise (· < ·)) {i c:Nat} (hc:l[i]? = some c):l.idxOf? c=some i:=by
 cases hx:l.idxOf? c with
 | none=>exact absurd (List.mem_of_getElem? hc) (by simpa using hx)
 | some k =>
  have h1:l[k]? = some c:=by
   unfold List.idxOf? at hx;obtain ⟨h2,h3,_⟩:=List.findIdx?_eq_some_iff_getElem.1 hx;rw [List.getElem?_eq_getElem h2];simpa using h3
  rw [inc_inj h h1 hc]
theorem Z0o (h:piv.Pairwise (· < ·)) {j:Nat} (hj:j ∉ piv) {i c:Nat} (hc:piv[i]? = some c):kv M piv j c = - M i j:=by
 unfold kv;rw [if_neg (fun e=>by subst e;exact hj (List.mem_of_getElem? hc)),ZVi h hc]
theorem Zzm {j:Nat}:kv M piv j j=1:=if_pos rfl
theorem ZQm {j d:Nat} (hd:d ∉ piv) (hne:d≠j):kv M piv j d=0:=by
 unfold kv;rw [if_neg hne]
 cases hx:piv.idxOf? d with
 | none=>rfl
 | some k =>
  unfold List.idxOf? at hx;obtain ⟨h2,h3,_⟩:=List.findIdx?_eq_some_iff_getElem.1 hx;exact absurd (List.getElem_mem h2) (by simp at h3;rw [h3];exact hd)
theorem Eli.kv_ker (h:Eli R n M0 M piv n) {j:Nat} (hj:j<n) (hp:j ∉ piv):Ker R n M0 (kv M piv j):=by
 refine (h.ker_iff _).2 fun i c hc=>?_;rw [Z0o h.inc hp hc,Z0f hj fun d hd hne=>?_,if_neg hp,Zzm]
 ·grind
 ·split
  ·rfl
  ·rename_i hm;rw [ZQm hm hne];grind
theorem Eli.span (h:Eli R n M0 M piv n) {v:Nat→Rat} (hv:Ker R n M0 v):∀ d,d<n→v d=sm n (fun j=>if j ∈ piv then 0 else v j*kv M piv j d):=by
 intro d hd;by_cases hm:d ∈ piv
 ·obtain ⟨i,hi⟩:=List.getElem?_of_mem hm;have:=(h.ker_iff v).1 hv i d hi;have e:sm n (fun j=>if j ∈ piv then 0 else v j*kv M piv j d)=(-1)*sm n (fun j=>if j ∈ piv then 0 else M i j*v j):=by
   rw [← ZRb];refine Zja fun j hj=>?_;split
   ·grind
   ·rename_i hp;rw [Z0o h.inc hp hi];grind
  rw [e];grind
 ·rw [Z0f hd fun j hj hne=>?_,if_neg hm,Zzm]
  ·grind
  ·split
   ·rfl
   ·rename_i hp;rw [ZQm hm (fun e=>hne e.symm)];grind
end
def Sol (R n:Nat) (M:Mx) (b x:Nat→Rat):Prop:=∀ i,i<R→sm n (fun j=>M i j*x j)=b i
def aug (n:Nat) (M:Mx) (b:Nat→Rat):Mx:=fun i j=>if j=n then b i else M i j
theorem ZJn {R n:Nat} {M:Mx} {b x:Nat→Rat}:Ker R (n+1) (aug n M b) (fun j=>if j=n then -1 else x j)↔Sol R n M b x:=by
 refine forall_congr' fun i=>forall_congr' fun hi=>?_;simp only [sm,aug,if_true];rw [Zja (g:=fun j=>M i j*x j) fun j hj=>by rw [if_neg (by omega),if_neg (by omega)]];constructor <;> intro h <;> grind
section
variable {R n:Nat} {N M:Mx} {b:Nat→Rat} {piv:List Nat}
theorem Eli.none (h:Eli R (n+1) (aug n N b) M piv (n+1)) (hn:n ∈ piv) (x:Nat→Rat):¬ Sol R n N b x:=fun hs=>by
 obtain ⟨i,hi⟩:=List.getElem?_of_mem hn
 have:=(h.ker_iff _).1 (ZJn.2 hs) i n hi
 rw [ZCd fun j hj=>?_,if_pos rfl] at this
 ·grind
 ·split
  ·rfl
  ·rename_i hp
   rw [h.left i n hi j (by have:j≠n:=fun e=>hp (e ▸ hn);omega)];grind
def pv (M:Mx) (piv:List Nat) (n:Nat):Nat→Rat:=fun d=>match piv.idxOf? d with
 | some i=>M i n
 | none=>0
theorem Eli.pv_sol (h:Eli R (n+1) (aug n N b) M piv (n+1)) (hn:n ∉ piv):Sol R n N b (pv M piv n):=by
 refine ZJn.1 ((h.ker_iff _).2 fun i c hc=>?_);have hcn:c≠n:=fun e=>hn (e ▸ List.mem_of_getElem? hc);rw [if_neg hcn];have e1:pv M piv n c=M i n:=by unfold pv;rw [ZVi h.inc hc]
 rw [e1,Z0f (k:=n) (by omega) fun j hj hne=>?_,if_neg hn,if_pos rfl]
 ·grind
 ·split
  ·rfl
  ·rename_i hp;have:pv M piv n j=0:=by
    unfold pv
    cases hx:piv.idxOf? j with
    | none=>rfl
    | some k =>
     unfold List.idxOf? at hx;obtain ⟨h2,h3,_⟩:=List.findIdx?_eq_some_iff_getElem.1 hx;exact absurd (List.getElem_mem h2) (by simp at h3;rw [h3];exact hp)
   rw [this];grind
end
noncomputable def ZBl (a:(List Int)):Option (Bool) :=
 bnd (ifb (((a.length:Int))==(1:Int))
 (bnd (idx a (0:Int)) fun b =>
 some (b==(1:Int)))
 (some false))
 (fun (c:Bool) =>
 (some c))
noncomputable def Ztg (a:(List Int)):Option ((List Int)) :=
 bnd (bnd (Zo (fun s:(List Int)=>match s with
 | b =>
 (bnd (ifb (decide ((0:Int)<(b.length:Int)))
 (bnd (chk .i64 (((b.length:Int))-(1:Int))) fun c =>
 bnd (idx b c) fun d =>
 some (d==(0:Int)))
 (some false))
 (fun (e:Bool) =>
 (ifb (e)
 (bnd (chk .i64 (((b.length:Int))-(1:Int))) fun f =>
 bnd (Zqc b (0:Int) f) fun g =>
 some (.inl g))
 (some (.inr b)))))) Zt a)
 (fun (h:(List Int)) =>
 (some h)))
 (fun (i:(List Int)) =>
 (some i))
noncomputable def Zzh (a:(List Int)) (b:(List Int)):Option (Int) :=
 ifb (((a.length:Int)) != ((b.length:Int)))
 (ifb (decide ((a.length:Int)<(b.length:Int)))
 (some (-1:Int))
 (some (1:Int)))
 (bnd (chk .i64 (((a.length:Int))-(1:Int))) fun d =>
 bnd (bnd (Zo (fun s:Int=>match s with
 | c =>
 (ifb (decide ((0:Int)≤c))
 (bnd (idx a c) fun e =>
 bnd (idx b c) fun f =>
 ifb (decide (e<f))
 (some (.inr ((.inl (-1:Int)))))
 (bnd (idx a c) fun g =>
 bnd (idx b c) fun h =>
 ifb (decide (h<g))
 (some (.inr ((.inl (1:Int)))))
 (bnd (chk .i64 (c-(1:Int))) fun i =>
 some (.inl i))))
 (some (.inr ((.inr (()))))))) Zt d)
 (fun (p:(Int) ⊕ (Unit))=>match p with
 | .inl j =>
 (some ((.inr j)))
 | .inr (()) =>
 (some ((.inl (()))))))
 (fun (p:(Unit) ⊕ (Int))=>match p with
 | .inl (()) =>
 (some (0:Int))
 | .inr k =>
 (some k)))
noncomputable def Zqj (a:Nat) (b:Nat):Option (Int) :=
 bnd (ifb (decide ((0:Int)<(((Zd 18446744073709551616 a)).length:Int)))
 (bnd (idx ((Zd 18446744073709551616 a)) (0:Int)) fun e =>
 some e)
 (some (0:Int)))
 (fun (f:Int) =>
 (bnd (idx ((Zd 18446744073709551616 b)) (0:Int)) fun g =>
 bnd (bnd (Zo (fun s:Int×Int=>match s with
 | (d,c) =>
 (ifb (decide ((0:Int)<c))
 (bnd (rem .u64 d c) fun h =>
 some (.inl ((c,h))))
 (some (.inr d)))) Zt ((f,g)))
 (fun (i:Int) =>
 (some i)))
 (fun (j:Int) =>
 (some j))))
theorem Zat {n:Nat}:ZBl (Zd 18446744073709551616 n)=some (decide (n=1)):=by
 unfold ZBl;by_cases h:n=1
 ·subst h;rw [ZPl (by omega) (by decide)];rfl
 ·by_cases h0:n=0
  ·subst h0;rw [Zva];rfl
  ·rw [Zpe (by decide) h0];by_cases h2:n / 18446744073709551616=0
   ·rw [h2,Zva];have:n%18446744073709551616=n:=Nat.mod_eq_of_lt (by have:=Nat.mod_add_div n 18446744073709551616;rw [h2] at this;have:=Nat.mod_lt n (show 0<18446744073709551616 by decide);omega);simp [ifb,bnd,idx,this,h];omega
   ·have h3:Zd 18446744073709551616 (n / 18446744073709551616)≠[]:=fun e=>h2 ((ZOi (by decide)).1 e);have h4:0<(Zd 18446744073709551616 (n / 18446744073709551616)).length:=List.length_pos_iff.2 h3;have h5:((((n%18446744073709551616:Nat):Int) :: Zd 18446744073709551616 (n / 18446744073709551616)).length:Int)==1↔False:=by
     simp only [List.length_cons,beq_iff_eq,iff_false];omega
    have h6:(((((n%18446744073709551616:Nat):Int) :: Zd 18446744073709551616 (n / 18446744073709551616)).length:Int)==1)=false:=by simpa using h5
    rw [h6];simp [ifb,bnd,h]
theorem ZUm {a:List Int} (ha:Dig 18446744073709551616 a) (hl:a.length≤9223372036854775807):Ztg a=some (Zd 18446744073709551616 (val 18446744073709551616 a)):=by
 unfold Ztg;rw [ZQl (r:=Zd 18446744073709551616 (val 18446744073709551616 a)) (fun s=>Dig 18446744073709551616 s∧s.length≤9223372036854775807∧val 18446744073709551616 s=val 18446744073709551616 a) List.length ⟨ha,hl,rfl⟩ (ZBa (by omega)) ?_]
 ·rfl
 ·rintro s ⟨h1,h2,h3⟩;by_cases h0:s=[]
  ·subst h0;right;rw [← h3];show some (Sum.inr [])=_;rw [show val 18446744073709551616 []=0 from rfl,Zva]
  ·have hp:0<s.length:=List.length_pos_iff.2 h0;have e1:decide ((0:Int)<(s.length:Int))=true:=decide_eq_true (by omega);have e2:chk .i64 ((s.length:Int)-1)=some ((s.length-1:Nat):Int):=by
    rw [Zu (by omega) (by omega)];congr 1;omega
   have e3:idx s ((s.length-1:Nat):Int)=some (s[s.length-1]'(by omega)):=ZT (by omega);simp only [e1,Zj,e2,Za,e3];by_cases hz:s[s.length-1]'(by omega)=0
   ·left;have e4:((s[s.length-1]'(by omega))==0)=true:=by simp [hz]
    simp only [e4,Zj];have e5:Zqc s 0 ((s.length-1:Nat):Int)=some (s.take (s.length-1)):=by
     unfold Zqc;rw [if_pos ⟨by omega,by omega,by omega⟩];simp
    rw [e5];refine ⟨_,rfl,⟨h1.take _,by simp;omega,?_⟩,by simp;omega⟩;have:=ZGb (B:=18446744073709551616) (l:=s) (i:=s.length-1) (by omega);rw [hz] at this;have h4:s.length-1+1=s.length:=by omega
    rw [h4,List.take_length] at this;simp at this;omega
   ·right;have e4:((s[s.length-1]'(by omega))==0)=false:=by simp [hz]
    simp only [e4,Zh];have hc:Cut s:=by
     intro x hx;rw [List.getLast?_eq_getElem?,List.getElem?_eq_getElem (by omega)] at hx
     cases hx;exact hz
    rw [← h3,Zvf (by decide) h1 hc]
theorem Z7d {B n:Nat} (hB:2≤B):(Zd B n)≠[]↔n≠0:=not_congr (ZOi hB)
theorem Z3n {B n m:Nat} (hB:2≤B) (h:(Zd B n).length<(Zd B m).length):n<m:=by
 have h1:=ZPe hB n;have hm:m≠0:=by rintro rfl;rw [Zva] at h;simp at h
 have h2:=Zxk hB hm;have h3:B^(Zd B n).length≤B^((Zd B m).length-1):=Nat.pow_le_pow_right (by omega) (by omega);omega
theorem ZCn {B:Nat} {a b:List Int} (ha:Dig B a) (hb:Dig B b) {i:Nat} (hl:a.length=b.length) (hi:i<a.length) (he:a.drop (i+1)=b.drop (i+1)) (h:a[i]<b[i]'(by omega)):val B a<val B b:=by
 rw [Zcd B a (i+1) (by omega),Zcd B b (i+1) (by omega),he,ZGb hi,ZGb (by omega:i<b.length)];have h1:=Zdd (ha.take i);rw [List.length_take,Nat.min_eq_left (by omega)] at h1;have h2:=ha.get hi;have h3:=hb.get (i:=i) (by omega);have h4:B^i*(a[i].toNat+1)≤B^i*(b[i]'(by omega)).toNat:=Nat.mul_le_mul_left _ (by omega);rw [Nat.mul_add] at h4;omega
theorem ZPo {n m:Nat} (h1:(Zd 18446744073709551616 n).length≤9223372036854775807) (h2:(Zd 18446744073709551616 m).length≤9223372036854775807):Zzh (Zd 18446744073709551616 n) (Zd 18446744073709551616 m)=some (ZHa n m):=by
 unfold Zzh;by_cases hl:(Zd 18446744073709551616 n).length=(Zd 18446744073709551616 m).length
 ·have e0:(((Zd 18446744073709551616 n).length:Int) != ((Zd 18446744073709551616 m).length:Int))=false:=by simp [hl]
  rw [e0,Zh];rw [Zu (by omega) (by omega),Za];have hd:=Zgb (B:=18446744073709551616) (by decide) n;have hd':=Zgb (B:=18446744073709551616) (by decide) m;have hvn:=Zbb (B:=18446744073709551616) (by decide) n;have hvm:=Zbb (B:=18446744073709551616) (by decide) m;generalize Zd 18446744073709551616 n=a at *;generalize Zd 18446744073709551616 m=b at *;rw [ZQl (r:=if n<m then .inl (-1) else if m<n then .inl 1 else .inr ()) (fun s:Int=>-1≤s∧s<a.length∧a.drop (s+1).toNat=b.drop (s+1).toNat) (fun s=>(s+1).toNat) ⟨by omega,by omega,?_⟩ (ZBa (by omega)) ?_]
  ·rw [Za];unfold ZHa;by_cases hlt:n<m
   ·simp only [if_pos hlt];rfl
   ·by_cases hgt:m<n
    ·simp only [if_neg hlt,if_pos hgt];rfl
    ·simp only [if_neg hlt,if_neg hgt];rfl
  ·rw [List.drop_eq_nil_of_le (by omega),List.drop_eq_nil_of_le (by omega)]
  ·rintro s ⟨h3,h4,h5⟩;by_cases hs:0≤s
   ·obtain ⟨i,rfl⟩:=Int.eq_ofNat_of_zero_le hs;have hi:i<a.length:=by omega
    have hi':i<b.length:=by omega
    have e1:decide ((0:Int)≤(i:Int))=true:=decide_eq_true hs;simp only [e1,Zj,ZT hi,ZT hi',Za];have ei:((i:Int)+1).toNat=i+1:=by omega
    rw [ei] at h5;by_cases hlt:a[i]<b[i]
    ·right;have:=ZCn hd hd' hl hi h5 hlt;rw [decide_eq_true hlt,Zj,if_pos (by omega)]
    ·by_cases hgt:b[i]<a[i]
     ·right;have:=ZCn hd' hd hl.symm hi' h5.symm hgt;rw [decide_eq_false hlt,Zh,decide_eq_true hgt,Zj,if_neg (by omega),if_pos (by omega)]
     ·left;rw [decide_eq_false hlt,Zh,decide_eq_false hgt,Zh,Zu (by omega) (by omega),Za];refine ⟨_,rfl,⟨by omega,by omega,?_⟩,by simp⟩;have e2:((i:Int)-1+1).toNat=i:=by omega
      rw [e2,List.drop_eq_getElem_cons hi,List.drop_eq_getElem_cons hi',h5];congr 1;omega
   ·right;have:s = -1:=by omega
    subst this;simp at h5;have:n=m:=by rw [← hvn,← hvm,h5]
    subst this;simp [ifb]
 ·have e0:(((Zd 18446744073709551616 n).length:Int) != ((Zd 18446744073709551616 m).length:Int))=true:=by simp;omega
  rw [e0,Zj];by_cases hlt:(Zd 18446744073709551616 n).length<(Zd 18446744073709551616 m).length
  ·have:=Z3n (by decide) hlt;rw [decide_eq_true (by omega),Zj];simp [ZHa,this]
  ·have:=Z3n (B:=18446744073709551616) (n:=m) (m:=n) (by decide) (by omega);rw [decide_eq_false (by omega),Zh];have h5:¬ n<m:=by omega
   simp [ZHa,this,h5]
theorem ZDm {B n:Nat} (hB:2≤B) (h0:n≠0) (h:n<B):idx (Zd B n) 0=some (n:Int):=by rw [ZPl h0 h];rfl
theorem Zrq {n m:Nat} (hn:n<18446744073709551616) (hm:m<18446744073709551616) (h0:m≠0):Zqj n m=some ((Nat.gcd n m:Nat):Int):=by
 unfold Zqj;have e1:ifb (decide ((0:Int)<((Zd 18446744073709551616 n).length:Int))) (bnd (idx (Zd 18446744073709551616 n) 0) fun y80=>some y80) (some 0)=some (n:Int):=by
  by_cases h:n=0
  ·subst h;rw [Zva];rfl
  ·rw [ZPl h hn];rfl
 rw [e1,Za,ZDm (by decide) h0 hm,Za];rw [ZQl (r:=((Nat.gcd n m:Nat):Int)) (fun s:Int×Int=>0≤s.1∧0≤s.2∧s.2<18446744073709551616∧Nat.gcd s.1.toNat s.2.toNat=Nat.gcd n m) (fun s=>s.2.toNat) ⟨by simp,by simp,by simp;omega,by simp⟩ (ZBa (by simp;omega)) ?_]
 ·rfl
 ·rintro ⟨x,y⟩ ⟨h1,h2,h3,h4⟩;simp only at h1 h2 h3 h4 ⊢;by_cases hy:y=0
  ·right;subst hy;simp at h4;simp [ifb];omega
  ·left;rw [decide_eq_true (by omega),Zj];have e2:rem .u64 x y=some (x.tmod y):=by unfold rem;rw [if_neg hy]
   rw [e2,Za];obtain ⟨X,rfl⟩:=Int.eq_ofNat_of_zero_le h1;obtain ⟨Y,rfl⟩:=Int.eq_ofNat_of_zero_le h2;have e3:(X:Int).tmod (Y:Int)=((X%Y:Nat):Int):=by simp [Int.tmod_eq_emod_of_nonneg]
   rw [e3];have hY:0<Y:=by omega
   have:=Nat.mod_lt X hY;refine ⟨_,rfl,⟨by omega,by omega,by simp;omega,?_⟩,by simp;omega⟩;simp only [Int.toNat_natCast] at h4 ⊢;rw [← h4]
   conv=>rhs;rw [Nat.gcd_comm,Nat.gcd_rec,Nat.gcd_comm]
noncomputable def ZRi (a:Nat) (b:Nat):Option (Nat) :=
 bnd (ifb (decide ((((Zd 18446744073709551616 a)).length:Int)<(((Zd 18446744073709551616 b)).length:Int)))
 (some ((b,a)))
 (some ((a,b))))
 (fun (p:Nat×Nat)=>match p with
 | (d,h) =>
 (bnd (chk .i64 (((((Zd 18446744073709551616 d)).length:Int))+(1:Int))) fun k =>
 bnd (mk 8 ((((Zd 18446744073709551616 d)).length:Int)) k) fun v =>
 bnd (bnd (Zo (fun s:(List Int)×Int×Int=>match s with
 | (e,i,c) =>
 (ifb (decide (c<(((Zd 18446744073709551616 d)).length:Int)))
 (bnd (idx ((Zd 18446744073709551616 d)) c) fun l =>
 bnd (ifb (decide (c<(((Zd 18446744073709551616 h)).length:Int)))
 (bnd (idx ((Zd 18446744073709551616 h)) c) fun m =>
 some m)
 (some (0:Int)))
 (fun (n:Int) =>
 (bnd (Z5a l n i) fun j =>
 bnd (idx e c) fun w =>
 bnd (chk .i64 (c+(1:Int))) fun o =>
 some (.inl (((e.set (c).toNat j.1),j.2,o))))))
 (some (.inr ((e,i)))))) Zt (((List.replicate ((((Zd 18446744073709551616 d)).length:Int)).toNat (0:Int)),(0:Int),(0:Int))))
 (fun (p:(List Int)×Int)=>match p with
 | (q,r) =>
 (some ((q,r)))))
 (fun (p:(List Int)×Int)=>match p with
 | (f,g) =>
 (bnd (ifb (decide ((0:Int)<g))
 (bnd (Z2 8 (f++[g])) fun x =>
 some ((f++[g])))
 (some f))
 (fun (t:(List Int)) =>
 (bnd (clo t) fun u =>
 some u))))))
noncomputable def Z1i (a:Nat) (b:Nat):Option (Nat) :=
 bnd (mk 8 ((((Zd 18446744073709551616 a)).length:Int)) ((((Zd 18446744073709551616 a)).length:Int))) fun n =>
 bnd (bnd (Zo (fun s:(List Int)×Int×Int=>match s with
 | (d,f,c) =>
 (ifb (decide (c<(((Zd 18446744073709551616 a)).length:Int)))
 (bnd (idx ((Zd 18446744073709551616 a)) c) fun g =>
 bnd (ifb (decide (c<(((Zd 18446744073709551616 b)).length:Int)))
 (bnd (idx ((Zd 18446744073709551616 b)) c) fun h =>
 some h)
 (some (0:Int)))
 (fun (i:Int) =>
 (bnd (ZIc g i f) fun e =>
 bnd (idx d c) fun o =>
 bnd (chk .i64 (c+(1:Int))) fun j =>
 some (.inl (((d.set (c).toNat e.1),e.2,j))))))
 (some (.inr d)))) Zt (((List.replicate ((((Zd 18446744073709551616 a)).length:Int)).toNat (0:Int)),(0:Int),(0:Int))))
 (fun (k:(List Int)) =>
 (some k)))
 (fun (l:(List Int)) =>
 (bnd (ZCa l) fun m =>
 some m))
theorem Z9p {P V Va Vb lo hi x y c B:Nat} (h:V+P*c=Va+Vb) (e:lo+B*hi=x+y+c):V+P*lo+P*B*hi=Va+P*x+(Vb+P*y):=by
 grind
theorem ZZn {P V Va Vb lo hi x y c B:Nat} (h:V+Vb=Va+P*c) (e:lo+y+c=x+B*hi):V+P*lo+(Vb+P*y)=Va+P*x+P*B*hi:=by
 grind
theorem Z0l {l:List Int} {B k:Nat} (hd:Dig B l) (hB:0<B):∃ y:Int,bnd (ifb (decide ((k:Int)<(l.length:Int))) (bnd (idx l (k:Int)) fun y=>some y) (some 0)) (fun x=>some x)=some y∧0≤y∧y<B∧val B (l.take (k+1))=val B (l.take k)+B^k*y.toNat ∧
  ∀ {α:Type} (f:Int→Option α),bnd (ifb (decide ((k:Int)<(l.length:Int))) (bnd (idx l (k:Int)) fun y=>some y) (some 0)) f=f y:=by
 by_cases h:k<l.length
 ·have e:decide ((k:Int)<(l.length:Int))=true:=decide_eq_true (by omega);refine ⟨l[k],?_,(hd.get h).1,(hd.get h).2,ZGb h,fun f=>?_⟩
  ·rw [e,Zj,ZT h];rfl
  ·rw [e,Zj,ZT h];rfl
 ·have e:decide ((k:Int)<(l.length:Int))=false:=decide_eq_false (by omega);refine ⟨0,?_,by omega,by omega,?_,fun f=>?_⟩
  ·rw [e];rfl
  ·rw [List.take_of_length_le (by omega),List.take_of_length_le (by omega)];simp
  ·rw [e];rfl
theorem ZAr {l:List Int} {k:Nat} {x:Int} (h:k<l.length):(l.set k x).take (k+1)=l.take k++[x]:=by
 rw [List.take_set,List.take_succ_eq_append_getElem h,List.set_append_right _ _ (by simp;omega)];simp [List.length_take,Nat.min_eq_left (Nat.le_of_lt h)]
theorem Zyf {B:Nat} {l:List Int} {k:Nat} {x:Int} (h:k<l.length):val B ((l.set k x).take (k+1))=val B (l.take k)+B^k*x.toNat:=by
 rw [ZAr h,ZVc,List.length_take,Nat.min_eq_left (by omega)];simp [val]
theorem ZFh {x y c:Int} (hx:0≤x) (hy:0≤y) (hc:0≤c) (hc':c≤1):Z5a x y c=some ((x+y+c)%18446744073709551616,(x+y+c) / 18446744073709551616):=by
 unfold Z5a;rw [if_pos ⟨hx,hy,hc,hc'⟩]
theorem Zym {x y c:Int} (hx:0≤x) (hy:0≤y) (hc:0≤c) (hc':c≤1):ZIc x y c=some ((x-y-c)%18446744073709551616,if x<y+c then 1 else 0):=by
 unfold ZIc;rw [if_pos ⟨hx,hy,hc,hc'⟩]
theorem Z5d {b:Nat} {l c:Int} (h0:0≤l) (h1:l≤c) (h2:(b:Int)*c≤281474976710656) (h3:c≤9223372036854775807):∃ u,mk b l c=some u:=by
 unfold mk;rw [if_pos ⟨h0,h1,h2,h3⟩];exact ⟨_,rfl⟩
theorem plus_eq {n m:Nat} (hn:okN n) (hm:okN m):ZRi n m=some (n+m):=by
 unfold ZRi;obtain ⟨x,y,e,hx,hy,hxy,hl⟩:∃ x y:Nat,ifb (decide ((((Zd 18446744073709551616 n)).length:Int)<(((Zd 18446744073709551616 m)).length:Int))) (some (m,n)) (some (n,m))=some (x,y)∧okN x∧okN y∧x+y=n+m ∧
   (Zd 18446744073709551616 y).length≤(Zd 18446744073709551616 x).length:=by
  by_cases h:(Zd 18446744073709551616 n).length<(Zd 18446744073709551616 m).length
  ·exact ⟨m,n,by rw [decide_eq_true (by omega)];rfl,hm,hn,by omega,by omega⟩
  ·exact ⟨n,m,by rw [decide_eq_false (by omega)];rfl,hn,hm,rfl,by omega⟩
 rw [e,Za,← hxy];simp only;have hdx:=Zgb (B:=18446744073709551616) (by decide) x;have hdy:=Zgb (B:=18446744073709551616) (by decide) y;have hvx:=Zbb (B:=18446744073709551616) (by decide) x;have hvy:=Zbb (B:=18446744073709551616) (by decide) y;have hcx:=Zwj (B:=18446744073709551616) (by decide) x;have hcy:=Zwj (B:=18446744073709551616) (by decide) y;unfold okN at hx hy;generalize Zd 18446744073709551616 x=a at *;generalize Zd 18446744073709551616 y=b at *;rw [Zu (by omega) (by omega),Za];obtain ⟨u,hu⟩:=Z5d (b:=8) (l:=(a.length:Int)) (c:=(a.length:Int)+1) (by omega) (by omega) (by omega) (by omega);rw [hu,Za,ZRa];refine Zcb (fun s:(List Int)×Int×Int=>∃ k:Nat,s.2.2=(k:Int)∧k≤a.length∧s.1.length=a.length∧Dig 18446744073709551616 s.1∧0≤s.2.1∧s.2.1≤1 ∧
  val 18446744073709551616 (s.1.take k)+18446744073709551616^k*s.2.1.toNat=val 18446744073709551616 (a.take k)+val 18446744073709551616 (b.take k)) (fun s=>a.length-s.2.2.toNat)
  (fun r:List Int×Int=>r.1.length=a.length∧Dig 18446744073709551616 r.1∧0≤r.2∧r.2≤1∧val 18446744073709551616 r.1+18446744073709551616^a.length*r.2.toNat=x+y)
  ⟨0,rfl,by omega,by simp,Dig.replicate _ (by omega),Int.le_refl _,(by show (0:Int)≤1;omega),by simp [val]⟩ (ZBa (by simp;omega)) ?_ ?_
 ·rintro ⟨out,c,i⟩ ⟨k,rfl,hk,ho,hd,hc,hc',hv⟩;simp only at ho hd hc hc' hv ⊢;by_cases hlt:k<a.length
  ·left;rw [decide_eq_true (by omega),Zj,ZT hlt,Za];obtain ⟨y,_,hy,hy',hvb,hf⟩:=Z0l (k:=k) hdy (by decide);rw [hf,ZFh (hdx.get hlt).1 hy hc hc',Za,ZT (by omega),Za,Zu (by omega) (by omega),Za];have hx:=hdx.get hlt;refine ⟨_,rfl,⟨k+1,by simp,by omega,by simp [ho],?_,by simp;omega,by simp;omega,?_⟩,by simp;omega⟩
   ·exact hd.set _ (by omega)
   ·simp only [Int.toNat_natCast];rw [Zyf (by omega),ZGb hlt,hvb,Nat.pow_succ];exact Z9p hv (by omega)
  ·right;rw [decide_eq_false (by omega),Zh];refine ⟨_,rfl,ho,hd,hc,hc',?_⟩;have hk':k=a.length:=by omega
   subst hk';rw [← hvx,← hvy]
   simpa [List.take_of_length_le,ho,hl] using hv
 ·rintro ⟨out,c⟩ ⟨ho,hd,hc,hc',hv⟩;simp only at ho hd hc hc' hv ⊢;rw [Za];simp only;rw [← hv];by_cases h0:0<c
  ·have hc1:c=1:=by omega
   subst hc1;rw [decide_eq_true (by omega),Zj];have hr:Z2 8 (out++[(1:Int)])=some ():=by unfold Z2;rw [if_pos (by simp;omega)]
   rw [hr,Za,Za,Ztn (Dig.append.2 ⟨hd,Dig.cons.2 ⟨by omega,Dig.nil⟩⟩) (by intro x hx;simp at hx;omega),Za,ZVc,ho];simp [val]
  ·have hc1:c=0:=by omega
   subst hc1;rw [decide_eq_false (by omega),Zh,Za];have hcut:Cut out:=by
    intro z hz h0;subst h0;have hne:out≠[]:=by rintro rfl;cases hz
    have hpos:0<out.length:=List.length_pos_iff.2 hne;have h1:val 18446744073709551616 out<18446744073709551616^(a.length-1):=by
     rw [List.getLast?_eq_getElem?,List.getElem?_eq_getElem (by omega)] at hz;have h2:=ZGb (B:=18446744073709551616) (l:=out) (i:=out.length-1) (by omega);rw [Option.some.inj hz] at h2;have h3:out.length-1+1=out.length:=by omega
     rw [h3,List.take_length] at h2;have h4:=Zdd (hd.take (out.length-1));rw [List.length_take,Nat.min_eq_left (by omega),ho] at h4;simp at h2;rw [h2,ho];exact h4
    have h5:x≠0:=by
     rintro rfl;rw [← Zvf (by decide) hdx hcx,hvx,Zva] at ho;simp at ho;exact hne ho
    have h6:=Zxk (B:=18446744073709551616) (by decide) h5;rw [← hvx,Zvf (by decide) hdx hcx,hvx] at h6;simp at hv;omega
   rw [Ztn hd hcut,Za];simp
theorem Zbh {B n m:Nat} (hB:2≤B) (h:n≤m):(Zd B n).length≤(Zd B m).length:=by
 apply ZBi hB;exact Nat.lt_of_le_of_lt h (ZPe hB m)
theorem Zsp {n m:Nat} (hn:okN n) (hm:m≤n):Z1i n m=some (n-m):=by
 unfold Z1i;have hl:=Zbh (B:=18446744073709551616) (by decide) hm;have hdx:=Zgb (B:=18446744073709551616) (by decide) n;have hdy:=Zgb (B:=18446744073709551616) (by decide) m;have hvx:=Zbb (B:=18446744073709551616) (by decide) n;have hvy:=Zbb (B:=18446744073709551616) (by decide) m;unfold okN at hn;generalize Zd 18446744073709551616 n=a at *;generalize Zd 18446744073709551616 m=b at *;obtain ⟨u,hu⟩:=Z5d (b:=8) (l:=(a.length:Int)) (c:=(a.length:Int)) (by omega) (by omega) (by omega) (by omega);rw [hu,Za,ZRa];refine Zcb (fun s:(List Int)×Int×Int=>∃ k:Nat,s.2.2=(k:Int)∧k≤a.length∧s.1.length=a.length∧Dig 18446744073709551616 s.1∧0≤s.2.1∧s.2.1≤1 ∧
  val 18446744073709551616 (s.1.take k)+val 18446744073709551616 (b.take k)=val 18446744073709551616 (a.take k)+18446744073709551616^k*s.2.1.toNat) (fun s=>a.length-s.2.2.toNat)
  (fun r:List Int=>r.length=a.length∧Dig 18446744073709551616 r∧val 18446744073709551616 r=n-m)
  ⟨0,rfl,by omega,by simp,Dig.replicate _ (by omega),Int.le_refl _,(by show (0:Int)≤1;omega),by simp [val]⟩ (ZBa (by simp;omega)) ?_ ?_
 ·rintro ⟨out,c,i⟩ ⟨k,rfl,hk,ho,hd,hc,hc',hv⟩;simp only at ho hd hc hc' hv ⊢;by_cases hlt:k<a.length
  ·left;rw [decide_eq_true (by omega),Zj,ZT hlt,Za];obtain ⟨y,_,hy,hy',hvb,hf⟩:=Z0l (k:=k) hdy (by decide);have hx:=hdx.get hlt;rw [hf,Zym (hdx.get hlt).1 hy hc hc',Za,ZT (by omega),Za,Zu (by omega) (by omega),Za];refine ⟨_,rfl,⟨k+1,by simp,by omega,by simp [ho],?_,by simp only;split <;> omega,by simp only;split <;> omega,?_⟩,by simp;omega⟩
   ·exact hd.set _ (by omega)
   ·simp only [Int.toNat_natCast];rw [Zyf (by omega),ZGb hlt,hvb,Nat.pow_succ];refine ZZn hv ?_;split <;> omega
  ·right;rw [decide_eq_false (by omega),Zh];refine ⟨_,rfl,ho,hd,?_⟩;have hk':k=a.length:=by omega
   subst hk';simp [List.take_of_length_le,ho,hl,hvx,hvy] at hv;have hlt2:=Zdd hd;rw [ho] at hlt2;have:c.toNat=0:=by
    have h1:c=0∨c=1:=by omega
    rcases h1 with rfl | rfl
    ·rfl
    ·simp at hv;omega
   rw [this] at hv;omega
 ·rintro out ⟨ho,hd,hv⟩;rw [Za];unfold ZCa;rw [hv,Za]
theorem ZTp {n m z:Nat} (h:ZBh n m=some z):ZRi n m=some z:=by
 unfold ZBh at h;split at h
 ·rename_i hh;rw [plus_eq hh.1 hh.2,h]
 ·cases h
theorem ZPs {n m z:Nat} (h:ZUf n m=some z):Z1i n m=some z:=by
 unfold ZUf at h;split at h
 ·rename_i hh;rw [Zsp hh.1 hh.2,h]
 ·cases h
theorem ZAp {n m:Nat} {z:Int} (h:ZEf n m=some z):Zqj n m=some z:=by
 unfold ZEf at h;split at h
 ·rename_i hh;rw [Zrq hh.1 hh.2.1 hh.2.2,h]
 ·cases h
noncomputable def ZIf (x:Int) (y:Int):Option (Int×Int) :=
 bnd (Zaa .u64 x (32:Int)) fun a =>
 bnd (Zaa .u64 y (32:Int)) fun b =>
 bnd (Zaa .u64 (IntKind.u64.wrap ((Z0 .u64 x (4294967295:Int))*(Z0 .u64 y (4294967295:Int)))) (32:Int)) fun c =>
 bnd (Zaa .u64 (IntKind.u64.wrap ((IntKind.u64.wrap (a*(Z0 .u64 y (4294967295:Int))))+c)) (32:Int)) fun d =>
 bnd (Zaa .u64 (IntKind.u64.wrap ((Z0 .u64 (IntKind.u64.wrap ((IntKind.u64.wrap (a*(Z0 .u64 y (4294967295:Int))))+c)) (4294967295:Int))+(IntKind.u64.wrap ((Z0 .u64 x (4294967295:Int))*b)))) (32:Int)) fun e =>
 some ((IntKind.u64.wrap ((IntKind.u64.wrap ((IntKind.u64.wrap (a*b))+d))+e),IntKind.u64.wrap (x*y)))
theorem wrap_u64 (z:Int):IntKind.u64.wrap z=z%18446744073709551616:=by
 simp [IntKind.wrap,IntKind.signed,IntKind.bits]
theorem ZWk {x:Int} {k:Nat} (hx:0≤x) (hk:k≤64):Zaa .u64 x (k:Int)=some (x / 2^k):=by
 unfold Zaa;rw [if_neg (by omega)];have:min ((k:Int).toNat) IntKind.u64.bits=k:=by simp [IntKind.bits];omega
 rw [this,Int.fdiv_eq_ediv_of_nonneg];exact Int.pow_nonneg (by omega)
theorem ZLe (x:Nat) (h:x<18446744073709551616):Z0 .u64 (x:Int) 4294967295=((x%4294967296:Nat):Int):=by
 unfold Z0;rw [wrap_u64];have h1:(BitVec.ofInt IntKind.u64.bits (x:Int) &&& BitVec.ofInt IntKind.u64.bits 4294967295).toNat=x%4294967296:=by
  rw [BitVec.toNat_and];have e1:(BitVec.ofInt IntKind.u64.bits (x:Int)).toNat=x:=by
   show (BitVec.ofInt 64 (x:Int)).toNat=x;rw [BitVec.toNat_ofInt];simp;omega
  have e2:(BitVec.ofInt IntKind.u64.bits 4294967295).toNat=2^32-1:=by decide
  rw [e1,e2,Nat.and_two_pow_sub_one_eq_mod]
 rw [h1];omega
theorem ZSr {x y:Int} (hx:0≤x) (hy:0≤y) (hx':x<18446744073709551616) (hy':y<18446744073709551616):ZIf x y=some (x*y / 18446744073709551616,x*y%18446744073709551616):=by
 obtain ⟨X,rfl⟩:=Int.eq_ofNat_of_zero_le hx;obtain ⟨Y,rfl⟩:=Int.eq_ofNat_of_zero_le hy;obtain ⟨h1,h2,h3,h4⟩:=Go.Lib.mul64_hi X Y (by omega) (by omega);have p1:X / 4294967296*(Y%4294967296)≤18446744065119617025:=Go.Lib.half_mul_le (by omega) (by omega);have p2:X%4294967296*(Y / 4294967296)≤18446744065119617025:=Go.Lib.half_mul_le (by omega) (by omega);have p3:X / 4294967296*(Y / 4294967296)≤18446744065119617025:=Go.Lib.half_mul_le (by omega) (by omega);unfold ZIf;have s32:∀ n:Nat,Zaa .u64 (n:Int) ((32:Int))=some ((n / 4294967296:Nat):Int):=fun n=>by
  have:=ZWk (x:=(n:Int)) (k:=32) (by omega) (by omega);exact this
 have wr:∀ n:Nat,n<18446744073709551616→IntKind.u64.wrap (n:Int)=(n:Int):=fun n h=>by rw [wrap_u64];omega
 have w1:IntKind.u64.wrap ((Z0 .u64 (X:Int) ((4294967295:Int)))*(Z0 .u64 (Y:Int) ((4294967295:Int))))=((X%4294967296*(Y%4294967296):Nat):Int):=by
  rw [ZLe X (by omega),ZLe Y (by omega),← Int.natCast_mul,wr _ h1]
 have w2:IntKind.u64.wrap (((X / 4294967296:Nat):Int)*(Z0 .u64 (Y:Int) ((4294967295:Int))))=((X / 4294967296*(Y%4294967296):Nat):Int):=by
  rw [ZLe Y (by omega),← Int.natCast_mul,wr _ (by omega)]
 have w3:IntKind.u64.wrap ((Z0 .u64 (X:Int) ((4294967295:Int)))*((Y / 4294967296:Nat):Int))=((X%4294967296*(Y / 4294967296):Nat):Int):=by
  rw [ZLe X (by omega),← Int.natCast_mul,wr _ (by omega)]
 have w4:IntKind.u64.wrap (((X / 4294967296:Nat):Int)*((Y / 4294967296:Nat):Int))=((X / 4294967296*(Y / 4294967296):Nat):Int):=by
  rw [← Int.natCast_mul,wr _ (by omega)]
 rw [s32,Za,s32,Za,w1,s32,Za,w2,w3,w4,← Int.natCast_add,wr _ h2,s32,Za,ZLe _ h2,← Int.natCast_add,wr _ h3,s32,Za,← Int.natCast_add];have hlt:X*Y / 18446744073709551616<18446744073709551616:=by
  rw [Nat.div_lt_iff_lt_mul (by omega)];exact Nat.mul_lt_mul'' (by omega) (by omega)
 rw [wr _ (by omega),← Int.natCast_add,wr _ (by omega),h4,wrap_u64];simp
theorem ZMm {x y:Int} {z:Int×Int} (h:Z5b x y=some z):ZIf x y=some z:=by
 unfold Z5b at h;split at h
 ·rename_i hh;rw [ZSr hh.1 hh.2.1 hh.2.2.1 hh.2.2.2,h]
 ·cases h
noncomputable def Z0h (a:Nat) (b:Nat):Option (Nat) :=
 bnd (Z0e a) fun o =>
 ifb (o)
 (some b)
 (bnd (Z0e b) fun q =>
 ifb (q)
 (some a)
 (bnd (chk .i64 (((((Zd 18446744073709551616 a)).length:Int))+((((Zd 18446744073709551616 b)).length:Int)))) fun f =>
 bnd (mk 8 f f) fun E =>
 bnd (bnd (Zo (fun s:(List Int)×Int=>match s with
 | (g,c) =>
 (ifb (decide (c<(((Zd 18446744073709551616 a)).length:Int)))
 (bnd (idx ((Zd 18446744073709551616 a)) c) fun r =>
 bnd (bnd (Zo (fun s:(List Int)×Int×Int=>match s with
 | (e,h,d) =>
 (ifb (decide (d<(((Zd 18446744073709551616 b)).length:Int)))
 (bnd (idx ((Zd 18446744073709551616 b)) d) fun t =>
 bnd (Z5b r t) fun i =>
 bnd (chk .i64 (c+d)) fun u =>
 bnd (idx e u) fun v =>
 bnd (Z5a i.2 v (0:Int)) fun j =>
 bnd (Z5a j.1 h (0:Int)) fun k =>
 bnd (chk .i64 (c+d)) fun l =>
 bnd (idx e l) fun F =>
 bnd (chk .i64 (d+(1:Int))) fun w =>
 some (.inl (((e.set (l).toNat k.1),IntKind.u64.wrap ((IntKind.u64.wrap (i.1+j.2))+k.2),w))))
 (some (.inr ((e,h)))))) Zt ((g,(0:Int),(0:Int))))
 (fun (p:(List Int)×Int)=>match p with
 | (x,y) =>
 (some ((x,y)))))
 (fun (p:(List Int)×Int)=>match p with
 | (m,z) =>
 (bnd (chk .i64 (c+((((Zd 18446744073709551616 b)).length:Int)))) fun n =>
 bnd (idx m n) fun G =>
 bnd (chk .i64 (c+(1:Int))) fun A =>
 some (.inl (((m.set (n).toNat z),A))))))
 (some (.inr g)))) Zt (((List.replicate (f).toNat (0:Int)),(0:Int))))
 (fun (B:(List Int)) =>
 (some B)))
 (fun (C:(List Int)) =>
 (bnd (ZCa C) fun D =>
 some D))))
noncomputable def Z5g (x:Int):Option (Int) :=
 bnd (ifb (decide ((4294967296:Int)≤x))
 (bnd (Zaa .u64 x (32:Int)) fun e =>
 some ((e,(32:Int))))
 (some ((x,(0:Int)))))
 (fun (p:Int×Int)=>match p with
 | (a,c) =>
 (bnd (ifb (decide ((65536:Int)≤a))
 (bnd (Zaa .u64 a (16:Int)) fun f =>
 bnd (chk .i64 (c+(16:Int))) fun g =>
 some ((f,g)))
 (some ((a,c))))
 (fun (p:Int×Int)=>match p with
 | (b,d) =>
 (bnd (ifb (decide ((256:Int)≤b))
 (bnd (Zaa .u64 b (8:Int)) fun h =>
 bnd (chk .i64 (d+(8:Int))) fun i =>
 some ((h,i)))
 (some ((b,d))))
 (fun (p:Int×Int)=>match p with
 | (j,k) =>
 (bnd (idx (([0,1,2,2,3,3,3,3,4,4,4,4,4,4,4,4,5,5,5,5,5,5,5,5,5,5,5,5,5,5,5,5,6,6,6,6,6,6,6,6,6,6,6,6,6,6,6,6,6,6,6,6,6,6,6,6,6,6,6,6,6,6,6,6,7,7,7,7,7,7,7,7,7,7,7,7,7,7,7,7,7,7,7,7,7,7,7,7,7,7,7,7,7,7,7,7,7,7,7,7,7,7,7,7,7,7,7,7,7,7,7,7,7,7,7,7,7,7,7,7,7,7,7,7,7,7,7,7,8,8,8,8,8,8,8,8,8,8,8,8,8,8,8,8,8,8,8,8,8,8,8,8,8,8,8,8,8,8,8,8,8,8,8,8,8,8,8,8,8,8,8,8,8,8,8,8,8,8,8,8,8,8,8,8,8,8,8,8,8,8,8,8,8,8,8,8,8,8,8,8,8,8,8,8,8,8,8,8,8,8,8,8,8,8,8,8,8,8,8,8,8,8,8,8,8,8,8,8,8,8,8,8,8,8,8,8,8,8,8,8,8,8,8,8,8,8,8,8,8,8,8,8,8,8,8,8]:List UInt8)) (IntKind.u8.wrap j)) fun l =>
 bnd (chk .i64 (k+(IntKind.i64.wrap ((l.toNat:Int))))) fun m =>
 some m))))))
theorem ZYr {V' V t d c c' Q P R S x y vm B:Nat} (h:V+Q*c=P+R*x*vm) (hs:V'+Q*t=V+Q*d) (e:d+B*c'=x*y+t+c) (hQ:Q=R*S):V'+Q*B*c'=P+R*x*(vm+S*y):=by
 have:Q*(d+B*c')=Q*(x*y+t+c):=by rw [e]
 subst hQ;grind
theorem Ztp {x y t c B1:Nat} (hx:x≤18446744073709551615) (hy:y≤18446744073709551615) (ht:t≤18446744073709551615) (hc:c≤18446744073709551615):x*y+t+c≤340282366920938463463374607431768211455:=by
 have:=Nat.mul_le_mul hx hy;omega
theorem Ztl {x y:Nat} (hx:x<18446744073709551616) (hy:y<18446744073709551616):Z5b (x:Int) (y:Int)=some (((x*y / 18446744073709551616:Nat):Int),((x*y%18446744073709551616:Nat):Int)):=by
 unfold Z5b;rw [if_pos ⟨by omega,by omega,by omega,by omega⟩];simp
theorem Zrp {n m:Nat} (hn:okN n) (hm:okN m):Z0h n m=some (n*m):=by
 unfold Z0h;unfold Z0e;rw [Za];by_cases h1:n=1
 ·rw [decide_eq_true h1,Zj,h1,Nat.one_mul]
 rw [decide_eq_false h1,Zh,Za];by_cases h2:m=1
 ·rw [decide_eq_true h2,Zj,h2,Nat.mul_one]
 rw [decide_eq_false h2,Zh];have hdx:=Zgb (B:=18446744073709551616) (by decide) n;have hdy:=Zgb (B:=18446744073709551616) (by decide) m;have hvx:=Zbb (B:=18446744073709551616) (by decide) n;have hvy:=Zbb (B:=18446744073709551616) (by decide) m;unfold okN at hn hm;generalize Zd 18446744073709551616 n=a at *;generalize Zd 18446744073709551616 m=b at *;rw [Zu (by omega) (by omega),Za];obtain ⟨u,hu⟩:=Z5d (b:=8) (l:=(a.length:Int)+b.length) (c:=(a.length:Int)+b.length) (by omega) (by omega) (by omega) (by omega);rw [hu,Za,ZRa];have e0:((a.length:Int)+b.length).toNat=a.length+b.length:=by omega
 rw [e0];refine Zcb (fun s:(List Int)×Int=>∃ k:Nat,s.2=(k:Int)∧k≤a.length∧s.1.length=a.length+b.length∧Dig 18446744073709551616 s.1 ∧
  val 18446744073709551616 s.1=val 18446744073709551616 (a.take k)*val 18446744073709551616 b∧∀ j (h:j<s.1.length),k+b.length≤j→s.1[j]=0) (fun s=>a.length-s.2.toNat)
  (fun r:List Int=>r.length=a.length+b.length∧val 18446744073709551616 r=n*m) ⟨0,rfl,by omega,by simp,Dig.replicate _ (by omega),by simp [val,ZHm],by simp⟩ (ZBa (by simp;omega)) ?_ ?_
 ·rintro ⟨out,i⟩ ⟨k,rfl,hk,ho,hd,hv,hz⟩;simp only at ho hd hv hz ⊢;by_cases hlt:k<a.length
  ·left;have hx:=hdx.get hlt;rw [decide_eq_true (by omega),Zj,ZT hlt,Za];obtain ⟨X,hX⟩:=Int.eq_ofNat_of_zero_le hx.1;have hX':X<18446744073709551616:=by omega
   obtain ⟨⟨o,c⟩,er,ho2,hd2,hc,hv2,hz2⟩:=Zok (body:=fun s:(List Int)×Int×Int=>match s with
    | (x204,x212,x214) =>
    (ifb (decide (x214<(b.length:Int)))
    (bnd (idx b x214) fun y245 =>
    bnd (Z5b a[k] y245) fun y261 =>
    bnd (chk .i64 ((k:Int)+x214)) fun y281 =>
    bnd (idx x204 y281) fun y283 =>
    bnd (Z5a y261.2 y283 ((0:Int))) fun y290 =>
    bnd (Z5a y290.1 x212 ((0:Int))) fun y301 =>
    bnd (chk .i64 ((k:Int)+x214)) fun y303 =>
    bnd (idx x204 y303) fun y305 =>
    bnd (chk .i64 (x214+((1:Int)))) fun y321 =>
    some (.inl (((x204.set (y303).toNat y301.1),IntKind.u64.wrap ((IntKind.u64.wrap (y261.1+y290.2))+y301.2),y321))))
    (some (.inr ((x204,x212)))))) (fun s:(List Int)×Int×Int=>∃ q:Nat,s.2.2=(q:Int)∧q≤b.length∧s.1.length=a.length+b.length∧Dig 18446744073709551616 s.1∧(0≤s.2.1∧s.2.1<18446744073709551616) ∧
     val 18446744073709551616 s.1+18446744073709551616^(k+q)*s.2.1.toNat=val 18446744073709551616 (a.take k)*val 18446744073709551616 b+18446744073709551616^k*X*val 18446744073709551616 (b.take q)∧∀ j (h:j<s.1.length),k+b.length≤j→s.1[j]=0)
    (fun s=>b.length-s.2.2.toNat)
    (fun r:List Int×Int=>r.1.length=a.length+b.length∧Dig 18446744073709551616 r.1∧(0≤r.2∧r.2<18446744073709551616) ∧
     val 18446744073709551616 r.1+18446744073709551616^(k+b.length)*r.2.toNat=val 18446744073709551616 (a.take k)*val 18446744073709551616 b+18446744073709551616^k*X*val 18446744073709551616 b∧∀ j (h:j<r.1.length),k+b.length≤j→r.1[j]=0)
    (by
     rintro ⟨o,c,i⟩ ⟨q,rfl,hq,ho2,hd2,hc,hv2,hz2⟩;simp only at ho2 hd2 hc hv2 hz2 ⊢;by_cases hqlt:q<b.length
     ·left;have hy:=hdy.get hqlt;obtain ⟨Y,hY⟩:=Int.eq_ofNat_of_zero_le hy.1;have hY':Y<18446744073709551616:=by omega
      have hkq:k+q<o.length:=by omega
      have ht:=hd2.get hkq;obtain ⟨T,hT⟩:=Int.eq_ofNat_of_zero_le ht.1;obtain ⟨C,rfl⟩:=Int.eq_ofNat_of_zero_le hc.1;have eck:chk .i64 ((k:Int)+(q:Int))=some ((k+q:Nat):Int):=by rw [Zu (by omega) (by omega)];simp
      rw [decide_eq_true (by omega),Zj,ZT hqlt,Za,hX,hY,Ztl hX' hY',Za,eck,Za,ZT hkq,Za,hT];rw [ZFh (by omega) (by omega) (by omega) (by omega),Za,ZFh (by omega) (by omega) (by omega) (by omega),Za,Za,ZT hkq,Za,Zu (by omega) (by omega),Za];have hb:=Ztp (x:=X) (y:=Y) (t:=T) (c:=C) (B1:=0) (by omega) (by omega) (by omega) (by omega);have hxy:X*Y≤340282366920938463426481119284349108225:=Nat.mul_le_mul (show X≤18446744073709551615 by omega) (show Y≤18446744073709551615 by omega);generalize hp:X*Y=p at *;have ecar:IntKind.u64.wrap (IntKind.u64.wrap (((p / 18446744073709551616:Nat):Int)+(((p%18446744073709551616:Nat):Int)+(T:Int)+0) / 18446744073709551616)+((((p%18446744073709551616:Nat):Int)+(T:Int)+0)%18446744073709551616+(C:Int)+0) / 18446744073709551616) =
        (((p+T+C) / 18446744073709551616:Nat):Int):=by
       rw [wrap_u64,wrap_u64];omega
      have edig:((((p%18446744073709551616:Nat):Int)+(T:Int)+0)%18446744073709551616+(C:Int)+0)%18446744073709551616=(((p+T+C)%18446744073709551616:Nat):Int):=by omega
      simp only [ecar,edig];refine ⟨_,rfl,⟨q+1,by simp,by omega,by simp [ho2],hd2.set _ (by omega),by simp only;omega,?_,?_⟩,by simp;omega⟩
      ·simp only [Int.toNat_natCast];have hs:=ZHi (B:=18446744073709551616) (l:=o) (i:=k+q) (x:=(((p+T+C)%18446744073709551616:Nat):Int)) hkq;rw [hT] at hs;simp only [Int.toNat_natCast] at hs hv2;rw [ZGb hqlt,hY];simp only [Int.toNat_natCast];rw [show k+(q+1)=k+q+1 by omega,Nat.pow_succ];exact ZYr hv2 hs (by rw [hp];omega) (Nat.pow_add _ _ _)
      ·intro j hj hj2;simp only [Int.toNat_natCast] at hj ⊢;rw [List.getElem_set_ne (by omega)];exact hz2 j (by simpa using hj) hj2
     ·right;rw [decide_eq_false (by omega),Zh];have hq':q=b.length:=by omega
      subst hq';rw [List.take_length] at hv2;exact ⟨_,rfl,ho2,hd2,hc,hv2,hz2⟩) Zt (out,(0:Int),(0:Int)) ⟨0,rfl,by omega,ho,hd,⟨Int.le_refl _,by show (0:Int)<18446744073709551616;omega⟩,by simp [val,hv],hz⟩ (ZBa (by simp;omega))
   rw [er,Za,Za];simp only at ho2 hd2 hc hv2 hz2 ⊢;have eck:chk .i64 ((k:Int)+(b.length:Int))=some ((k+b.length:Nat):Int):=by rw [Zu (by omega) (by omega)];simp
   have hkb:k+b.length<o.length:=by omega
   rw [eck,Za,ZT hkb,Za,Zu (by omega) (by omega),Za];refine ⟨_,rfl,⟨k+1,by simp,by omega,by simp [ho2],hd2.set _ hc,?_,?_⟩,by simp;omega⟩
   ·have hs:=ZHi (B:=18446744073709551616) (l:=o) (i:=k+b.length) (x:=c) hkb;rw [hz2 _ hkb (by omega)] at hs;simp only [Int.toNat_natCast] at hs ⊢;rw [ZGb hlt,hX];simp only [Int.toNat_natCast];simp at hs;rw [hs,hv2];grind
   ·intro j hj hj2;simp only [Int.toNat_natCast] at hj ⊢;rw [List.getElem_set_ne (by omega)];exact hz2 j (by simpa using hj) (by omega)
  ·right;rw [decide_eq_false (by omega),Zh];have hk':k=a.length:=by omega
   subst hk';rw [List.take_length,hvx,hvy] at hv;exact ⟨_,rfl,ho,hv⟩
 ·rintro out ⟨ho,hv⟩;rw [Za];unfold ZCa;rw [hv,Za]
theorem Z4r {n m z:Nat} (h:ZOb n m=some z):Z0h n m=some z:=by
 unfold ZOb at h;split at h
 ·rename_i hh;rw [Zrp hh.1 hh.2,h]
 ·cases h
theorem ZVf {n k:Nat} (h:n≠0):bl n=k+1↔2^k≤n∧n<2^(k+1):=by
 unfold bl;rw [if_neg h,← Nat.log2_eq_iff h];omega
theorem ZPf {n:Nat} (h:n≠0):∃ k,bl n=k+1:=⟨Nat.log2 n,by unfold bl;rw [if_neg h]⟩
theorem Zhd (n:Nat):n<2^bl n:=by
 by_cases h:n=0
 ·subst h;simp [bl]
 ·obtain ⟨k,hk⟩:=ZPf h;rw [hk];exact ((ZVf h).1 hk).2
theorem Zkc {n k:Nat} (h:n<2^k):bl n≤k:=by
 by_cases h0:n=0
 ·subst h0;simp [bl]
 ·obtain ⟨q,hq⟩:=ZPf h0;have:=((ZVf h0).1 hq).1;rw [hq];have h2:2^q<2^k:=by omega
  exact (Nat.pow_lt_pow_iff_right (by omega)).1 h2
theorem Zci {n k:Nat} (h:2^k≤n):bl n=bl (n / 2^k)+k:=by
 have hp:0<2^k:=Nat.pow_pos (by omega);have h0:n / 2^k≠0:=by
  have:=(Nat.le_div_iff_mul_le hp (x:=1) (y:=n)).2 (by omega);omega
 obtain ⟨q,hq⟩:=ZPf h0;have h1:=(ZVf h0).1 hq;have hn:n≠0:=by omega
 rw [hq,show q+1+k=(q+k)+1 by omega,ZVf hn];constructor
 ·have:=Nat.mul_le_mul_right (2^k) h1.1;rw [← Nat.pow_add] at this;exact Nat.le_trans this (Nat.div_mul_le_self _ _)
 ·have:=(Nat.div_lt_iff_lt_mul hp).1 h1.2;rw [← Nat.pow_add] at this;rw [show q+k+1=q+1+k by omega];exact this
set_option maxRecDepth 10000 in
theorem Z5q:∀ i:Fin 256,([0,1,2,2,3,3,3,3,4,4,4,4,4,4,4,4,5,5,5,5,5,5,5,5,5,5,5,5,5,5,5,5,6,6,6,6,6,6,6,6,6,6,6,6,6,6,6,6,6,6,6,6,6,6,6,6,6,6,6,6,6,6,6,6,7,7,7,7,7,7,7,7,7,7,7,7,7,7,7,7,7,7,7,7,7,7,7,7,7,7,7,7,7,7,7,7,7,7,7,7,7,7,7,7,7,7,7,7,7,7,7,7,7,7,7,7,7,7,7,7,7,7,7,7,7,7,7,7,8,8,8,8,8,8,8,8,8,8,8,8,8,8,8,8,8,8,8,8,8,8,8,8,8,8,8,8,8,8,8,8,8,8,8,8,8,8,8,8,8,8,8,8,8,8,8,8,8,8,8,8,8,8,8,8,8,8,8,8,8,8,8,8,8,8,8,8,8,8,8,8,8,8,8,8,8,8,8,8,8,8,8,8,8,8,8,8,8,8,8,8,8,8,8,8,8,8,8,8,8,8,8,8,8,8,8,8,8,8,8,8,8,8,8,8,8,8,8,8,8,8,8,8,8,8,8,8]:List UInt8)[i.val]?.map (fun y=>y.toNat)=some (bl i.val):=by decide +kernel
set_option maxRecDepth 10000 in
theorem bl_idx {n:Nat} (h:n<256):∃ y,idx ([0,1,2,2,3,3,3,3,4,4,4,4,4,4,4,4,5,5,5,5,5,5,5,5,5,5,5,5,5,5,5,5,6,6,6,6,6,6,6,6,6,6,6,6,6,6,6,6,6,6,6,6,6,6,6,6,6,6,6,6,6,6,6,6,7,7,7,7,7,7,7,7,7,7,7,7,7,7,7,7,7,7,7,7,7,7,7,7,7,7,7,7,7,7,7,7,7,7,7,7,7,7,7,7,7,7,7,7,7,7,7,7,7,7,7,7,7,7,7,7,7,7,7,7,7,7,7,7,8,8,8,8,8,8,8,8,8,8,8,8,8,8,8,8,8,8,8,8,8,8,8,8,8,8,8,8,8,8,8,8,8,8,8,8,8,8,8,8,8,8,8,8,8,8,8,8,8,8,8,8,8,8,8,8,8,8,8,8,8,8,8,8,8,8,8,8,8,8,8,8,8,8,8,8,8,8,8,8,8,8,8,8,8,8,8,8,8,8,8,8,8,8,8,8,8,8,8,8,8,8,8,8,8,8,8,8,8,8,8,8,8,8,8,8,8,8,8,8,8,8,8,8,8,8,8,8]:List UInt8) (n:Int)=some y∧y.toNat=bl n:=by
 have:=Z5q ⟨n,h⟩;obtain ⟨y,e,h2⟩:=Option.map_eq_some_iff.1 this;exact ⟨y,by simp only [idx,Int.toNat_natCast];rw [if_pos (by omega)];exact e,h2⟩
set_option maxRecDepth 10000 in
theorem ZXs {n:Nat} (hn:n<18446744073709551616):Z5g (n:Int)=some (bl n:Int):=by
 unfold Z5g;have sh:∀ (n k:Nat),k≤64→Zaa .u64 (n:Int) (k:Int)=some ((n / 2^k:Nat):Int):=fun n k h=>by rw [ZWk (by omega) h];simp
 have s32:∀ n:Nat,Zaa .u64 (n:Int) 32=some ((n / 4294967296:Nat):Int):=fun n=>sh n 32 (by omega);have s16:∀ n:Nat,Zaa .u64 (n:Int) 16=some ((n / 65536:Nat):Int):=fun n=>sh n 16 (by omega);have s8:∀ n:Nat,Zaa .u64 (n:Int) 8=some ((n / 256:Nat):Int):=fun n=>sh n 8 (by omega);obtain ⟨n1,k1,e1,h1,b1,l1⟩:∃ n1 k1:Nat,ifb (decide ((4294967296:Int)≤(n:Int))) (bnd (Zaa .u64 (n:Int) 32) fun y=>some (y,(32:Int))) (some ((n:Int),0))=some ((n1:Int),(k1:Int))∧n1<4294967296∧bl n=bl n1+k1∧k1≤32:=by
  by_cases h:4294967296≤n
  ·exact ⟨n / 4294967296,32,by rw [decide_eq_true (by omega),Zj,s32];rfl,by omega,Zci (k:=32) h,by omega⟩
  ·exact ⟨n,0,by rw [decide_eq_false (by omega)];rfl,by omega,rfl,by omega⟩
 rw [e1,Za];simp only;obtain ⟨n2,k2,e2,h2,b2,l2⟩:∃ n2 k2:Nat,ifb (decide ((65536:Int)≤(n1:Int))) (bnd (Zaa .u64 (n1:Int) 16) fun y=>bnd (chk .i64 ((k1:Int)+16)) fun z=>some (y,z)) (some ((n1:Int),(k1:Int)))=some ((n2:Int),(k2:Int))∧n2<65536∧bl n=bl n2+k2∧k2≤48:=by
  by_cases h:65536≤n1
  ·exact ⟨n1 / 65536,k1+16,by rw [decide_eq_true (by omega),Zj,s16,Za,Zu (by omega) (by omega)];rfl,by omega,by rw [b1,Zci (k:=16) h];simp;omega,by omega⟩
  ·exact ⟨n1,k1,by rw [decide_eq_false (by omega)];rfl,by omega,b1,by omega⟩
 rw [e2,Za];simp only;obtain ⟨n3,k3,e3,h3,b3,l3⟩:∃ n3 k3:Nat,ifb (decide ((256:Int)≤(n2:Int))) (bnd (Zaa .u64 (n2:Int) 8) fun y=>bnd (chk .i64 ((k2:Int)+8)) fun z=>some (y,z)) (some ((n2:Int),(k2:Int)))=some ((n3:Int),(k3:Int))∧n3<256∧bl n=bl n3+k3∧k3≤56:=by
  by_cases h:256≤n2
  ·exact ⟨n2 / 256,k2+8,by rw [decide_eq_true (by omega),Zj,s8,Za,Zu (by omega) (by omega)];rfl,by omega,by rw [b2,Zci (k:=8) h];simp;omega,by omega⟩
  ·exact ⟨n2,k2,by rw [decide_eq_false (by omega)];rfl,by omega,b2,by omega⟩
 rw [e3,Za];simp only;have hw:IntKind.u8.wrap (n3:Int)=(n3:Int):=by
  simp [IntKind.wrap,IntKind.signed,IntKind.bits];omega
 rw [hw];obtain ⟨y,ey,hy⟩:=bl_idx h3;have hb:bl n3≤8:=Zkc h3;rw [ey,Za,Zvd (ZZb.2 ⟨by omega,by omega⟩),Zu (by omega) (by omega),Za,b3,hy];congr 1;omega
theorem ZHr {x z:Int} (h:Zgh x=some z):Z5g x=some z:=by
 unfold Zgh at h;split at h
 ·rename_i hh;obtain ⟨n,rfl⟩:=Int.eq_ofNat_of_zero_le hh.1;rw [ZXs (by omega),← h];simp
 ·cases h
noncomputable def Zli (x:Int):Option (Int) :=
 bnd (Zgh x) fun a =>
 bnd (chk .i64 ((64:Int)-a)) fun b =>
 some b
theorem ZSp {x z:Int} (h:Zud x=some z):Zli x=some z:=by
 unfold Zud at h;split at h
 ·rename_i hh;have hb:bl x.toNat≤64:=Zkc (by omega);unfold Zli Zgh;rw [if_pos hh,Za,Zu (by omega) (by omega),Za,h]
 ·cases h
noncomputable def Zug (hi:Int) (lo:Int) (y:Int):Option (Int×Int) :=
 ifb (y==(0:Int))
  (none)
 (ifb (decide (y≤hi))
  (none)
 (ifb (hi==(0:Int))
 (bnd (quo .u64 lo y) fun p =>
 bnd (rem .u64 lo y) fun q =>
 some ((p,q)))
 (bnd (Zud y) fun c =>
 bnd (Zfc .u64 y (IntKind.u64.wrap c)) fun b =>
 bnd (Zaa .u64 b (32:Int)) fun a =>
 bnd (Zfc .u64 hi (IntKind.u64.wrap c)) fun d =>
 bnd (Zaa .u64 lo (IntKind.u64.wrap ((64:Int)-(IntKind.u64.wrap c)))) fun e =>
 bnd (Zfc .u64 lo (IntKind.u64.wrap c)) fun j =>
 bnd (Zaa .u64 j (32:Int)) fun h =>
 bnd (quo .u64 (orI .u64 d e) a) fun m =>
 bnd (bnd (Zo (fun s:Int×Int=>match s with
 | (f,k) =>
 (bnd (ifb (decide ((4294967296:Int)≤f))
 (some true)
 (some (decide (IntKind.u64.wrap ((IntKind.u64.wrap ((4294967296:Int)*k))+h)<IntKind.u64.wrap (f*(Z0 .u64 b (4294967295:Int)))))))
 (fun (r:Bool) =>
 (ifb (r)
 (ifb (decide ((4294967296:Int)≤IntKind.u64.wrap (k+a)))
 (some (.inr (IntKind.u64.wrap (f-(1:Int)))))
 (some (.inl ((IntKind.u64.wrap (f-(1:Int)),IntKind.u64.wrap (k+a))))))
 (some (.inr f)))))) Zt ((m,IntKind.u64.wrap ((orI .u64 d e)-(IntKind.u64.wrap (m*a))))))
 (fun (t:Int) =>
 (some t)))
 (fun (i:Int) =>
 (bnd (quo .u64 (IntKind.u64.wrap ((IntKind.u64.wrap ((IntKind.u64.wrap ((orI .u64 d e)*(4294967296:Int)))+h))-(IntKind.u64.wrap (i*b)))) a) fun n =>
 bnd (bnd (Zo (fun s:Int×Int=>match s with
 | (l,g) =>
 (bnd (ifb (decide ((4294967296:Int)≤g))
 (some true)
 (some (decide (IntKind.u64.wrap ((IntKind.u64.wrap ((4294967296:Int)*l))+(Z0 .u64 j (4294967295:Int)))<IntKind.u64.wrap (g*(Z0 .u64 b (4294967295:Int)))))))
 (fun (u:Bool) =>
 (ifb (u)
 (ifb (decide ((4294967296:Int)≤IntKind.u64.wrap (l+a)))
 (some (.inr (IntKind.u64.wrap (g-(1:Int)))))
 (some (.inl ((IntKind.u64.wrap (l+a),IntKind.u64.wrap (g-(1:Int)))))))
 (some (.inr g)))))) Zt ((IntKind.u64.wrap ((IntKind.u64.wrap ((IntKind.u64.wrap ((IntKind.u64.wrap ((orI .u64 d e)*(4294967296:Int)))+h))-(IntKind.u64.wrap (i*b))))-(IntKind.u64.wrap (n*a))),n)))
 (fun (v:Int) =>
 (some v)))
 (fun (o:Int) =>
 (bnd (Zaa .u64 (IntKind.u64.wrap ((IntKind.u64.wrap ((IntKind.u64.wrap ((IntKind.u64.wrap ((IntKind.u64.wrap ((IntKind.u64.wrap ((orI .u64 d e)*(4294967296:Int)))+h))-(IntKind.u64.wrap (i*b))))*(4294967296:Int)))+(Z0 .u64 j (4294967295:Int))))-(IntKind.u64.wrap (o*b)))) (IntKind.u64.wrap c)) fun w =>
 some ((IntKind.u64.wrap ((IntKind.u64.wrap (i*(4294967296:Int)))+o),w)))))))))
theorem ZOg {x k:Nat} (hk:k≤64):Zfc .u64 (x:Int) (k:Int)=some ((x*2^k%18446744073709551616:Nat):Int):=by
 unfold Zfc;rw [if_neg (by omega)];have:min ((k:Int).toNat) IntKind.u64.bits=k:=by simp [IntKind.bits];omega
 rw [this,wrap_u64];simp
theorem Zrg {x k:Nat} (hk:k≤64):Zaa .u64 (x:Int) (k:Int)=some ((x / 2^k:Nat):Int):=by
 rw [ZWk (by omega) hk];simp
theorem Zbl {a c k:Nat} (hc:c<2^k) (ha:a*2^k+c<18446744073709551616):orI .u64 ((a*2^k:Nat):Int) (c:Int)=((a*2^k+c:Nat):Int):=by
 unfold orI;have h1:(BitVec.ofInt IntKind.u64.bits ((a*2^k:Nat):Int) ||| BitVec.ofInt IntKind.u64.bits (c:Int)).toNat=a*2^k+c:=by
  rw [BitVec.toNat_or];have e1:(BitVec.ofInt IntKind.u64.bits ((a*2^k:Nat):Int)).toNat=a*2^k:=by
   show (BitVec.ofInt 64 ((a*2^k:Nat):Int)).toNat=a*2^k;rw [BitVec.toNat_ofInt];generalize a*2^k=z at *;simp;omega
  have e2:(BitVec.ofInt IntKind.u64.bits (c:Int)).toNat=c:=by
   show (BitVec.ofInt 64 (c:Int)).toNat=c;rw [BitVec.toNat_ofInt];generalize a*2^k=z at *;simp;omega
  rw [e1,e2,Nat.mul_comm a,← Nat.two_pow_add_eq_or_of_lt hc]
 rw [h1,wrap_u64];generalize a*2^k+c=z at *;omega
theorem ZEn {u d q r y1 y0 Y:Nat} (hY:Y=y1*4294967296+y0) (hu:u=q*y1+r) (h:q*y0≤4294967296*r+d):q*Y≤u*4294967296+d:=by
 subst hY hu;grind
theorem ZWs {u d q r y1 y0 Y:Nat} (hY:Y=y1*4294967296+y0) (hu:u=q*y1+r) (h:4294967296*r+d<q*y0):u*4294967296+d<q*Y:=by
 subst hY hu;grind
theorem Zdr {u d y1 y0 Y q:Nat} (hY:Y=y1*4294967296+y0) (hy:2147483648≤y1) (hy0:y0<4294967296) (huY:u<Y) (hq:q*y1≤u):q≤4294967297:=by
 rcases Nat.lt_or_ge 4294967297 q with h | h
 ·have h1:4294967298*y1≤q*y1:=Nat.mul_le_mul_right _ h;omega
 ·exact h
theorem ZQf {n:Nat} (h:n<18446744073709551616):IntKind.u64.wrap (n:Int)=(n:Int):=by rw [wrap_u64];omega
structure Half (u d y1 y0 Y:Nat):Prop where
 eY:Y=y1*4294967296+y0
 h1:2147483648≤y1
 h1':y1<4294967296
 h0:y0<4294967296
 hd:d<4294967296
 hu:u<Y
theorem ZXl {u d y1 y0 Y q r:Nat} (H:Half u d y1 y0 Y) (e:u=q*y1+r) (hr:r<4294967296) (hQ:(u*4294967296+d) / Y≤q) :
  (q<4294967296∧q*y0≤4294967296*r+d∧q=(u*4294967296+d) / Y) ∨
  ((4294967296≤q∨q<4294967296∧4294967296*r+d<q*y0)∧0<q∧(u*4294967296+d) / Y≤q-1∧u=(q-1)*y1+(r+y1)∧(4294967296≤r+y1→q-1=(u*4294967296+d) / Y)):=by
 obtain ⟨eY,h1,h1',h0,hd,hu⟩:=H;have hY:0<Y:=by omega
 have hQ1:∀ q,q*Y≤u*4294967296+d→q≤(u*4294967296+d) / Y:=fun q h=>(Nat.le_div_iff_mul_le hY).2 h;have hQ2:∀ q,u*4294967296+d<q*Y→(u*4294967296+d) / Y<q:=fun q h=>(Nat.div_lt_iff_lt_mul hY).2 h;have hQb:(u*4294967296+d) / Y<4294967296:=by
  apply hQ2;have:(u+1)*4294967296≤Y*4294967296:=Nat.mul_le_mul_right _ hu;rw [Nat.mul_comm 4294967296 Y];omega
 generalize (u*4294967296+d) / Y=Q at *;by_cases hc:q<4294967296∧q*y0≤4294967296*r+d
 ·left;refine ⟨hc.1,hc.2,?_⟩;have:=hQ1 q (ZEn eY e hc.2);omega
 ·right;have hlt:Q<q:=by
   by_cases hq:q<4294967296
   ·exact hQ2 q (ZWs eY e (by omega))
   ·omega
  have hq1:q*y1≤u:=by omega
  have hqb:=Zdr (d:=d) eY h1 h0 hu hq1;have e2:u=(q-1)*y1+(r+y1):=by
   obtain ⟨p,rfl⟩:∃ p,q=p+1:=⟨q-1,by omega⟩;rw [e,Nat.succ_mul];simp;omega
  refine ⟨by omega,by omega,by omega,e2,fun h=>?_⟩;have h3:(q-1)*y0≤4294967296*4294967295:=Nat.mul_le_mul (by omega) (by omega);have:=hQ1 _ (ZEn (d:=d) eY e2 (by omega));omega
theorem ZTo {u d q Y:Nat} (hq:q=(u*4294967296+d) / Y) (hY:Y<18446744073709551616) (hY0:0<Y) :
  IntKind.u64.wrap (IntKind.u64.wrap (IntKind.u64.wrap ((u:Int)*4294967296)+(d:Int))-IntKind.u64.wrap ((q:Int)*(Y:Int)))=(((u*4294967296+d)%Y:Nat):Int):=by
 have h1:=Nat.div_add_mod (u*4294967296+d) Y;have h2:=Nat.mod_lt (u*4294967296+d) hY0;rw [← hq,Nat.mul_comm] at h1;rw [← Int.natCast_mul q Y];generalize q*Y=p at *;generalize (u*4294967296+d)%Y=m at *;simp only [wrap_u64];omega
theorem ZZh {p q:Nat} (hq:0<q) (hp:p<18446744073709551616):quo .u64 (p:Int) (q:Int)=some ((p / q:Nat):Int):=by
 unfold quo;rw [if_neg (by omega)];have e:(p:Int).tdiv (q:Int)=((p / q:Nat):Int):=by simp [Int.tdiv_eq_ediv_of_nonneg]
 have h:p / q≤p:=Nat.div_le_self _ _;generalize p / q=r at *;rw [e,Z9m (ZTc.2 ⟨by omega,by omega⟩)]
theorem Z8g {k:IntKind} {p q:Nat} (hq:0<q):rem k (p:Int) (q:Int)=some ((p%q:Nat):Int):=by
 unfold rem;rw [if_neg (by omega)];simp [Int.tmod_eq_emod_of_nonneg]
theorem ZZp {H L y s Y:Nat} (hH:H<y) (hL:L<18446744073709551616) (hs:s≤63) (hY:Y=y*2^s) (hY':Y<18446744073709551616) :
  H*2^s%18446744073709551616=H*2^s∧L / 2^(64-s)<2^s∧H*2^s+L / 2^(64-s)<Y∧(H*2^s+L / 2^(64-s))*18446744073709551616+L*2^s%18446744073709551616=(H*18446744073709551616+L)*2^s:=by
 have e64:2^(64-s)*2^s=18446744073709551616:=by rw [← Nat.pow_add,show 64-s+s=64 by omega]
 have hp:0<2^s:=Nat.pow_pos (by omega);have hp2:0<2^(64-s):=Nat.pow_pos (by omega);have h1:(H+1)*2^s≤Y:=by rw [hY];exact Nat.mul_le_mul_right _ hH
 rw [Nat.add_mul,Nat.one_mul] at h1;have h2:L / 2^(64-s)<2^s:=by rw [Nat.div_lt_iff_lt_mul hp2,Nat.mul_comm,e64];exact hL
 have h3:L*2^s / 18446744073709551616=L / 2^(64-s):=by
  rw [← e64,Nat.mul_div_mul_right _ _ hp]
 have h4:=Nat.div_add_mod (L*2^s) 18446744073709551616;rw [h3] at h4;refine ⟨Nat.mod_eq_of_lt (by omega),h2,by omega,?_⟩;rw [Nat.add_mul (H*18446744073709551616),Nat.mul_right_comm H];omega
theorem ZSm {q r y0 d Y:Nat} (y1:Nat) (hY:Y%4294967296=y0) (hY':Y<18446744073709551616) (hr:r<4294967296) (hd:d<4294967296) :
  ifb (decide ((4294967296:Int)≤(q:Int))) (some true) (some (decide (IntKind.u64.wrap ((IntKind.u64.wrap (((4294967296:Int))*(r:Int)))+(d:Int))<IntKind.u64.wrap ((q:Int)*(Z0 .u64 (Y:Int) ((4294967295:Int))))))) =
  some (decide (4294967296≤q∨q<4294967296∧4294967296*r+d<q*y0)):=by
 by_cases h:4294967296≤q
 ·rw [decide_eq_true (by omega),Zj,decide_eq_true (.inl h)]
 ·rw [decide_eq_false (by omega),Zh];have h1:q*y0≤4294967295*4294967295:=Nat.mul_le_mul (by omega) (by omega);have e1:((4294967296:Int))*(r:Int)=((4294967296*r:Nat):Int):=by simp
  rw [ZLe _ hY',hY,← Int.natCast_mul q y0,ZQf (by omega),e1,ZQf (by omega),← Int.natCast_add,ZQf (by omega)];congr 1;apply decide_eq_decide.2;omega
theorem Z1q {H L y:Nat} (hL:L<18446744073709551616) (hH:H<y) (hy:y<18446744073709551616) :
  Zug (H:Int) (L:Int) (y:Int)=some ((((H*18446744073709551616+L) / y:Nat):Int),(((H*18446744073709551616+L)%y:Nat):Int)):=by
 unfold Zug;have e1:((y:Int)==0)=false:=by simp;omega
 rw [e1,Zh,decide_eq_false (by omega),Zh];by_cases hH0:H=0
 ·subst hH0;rw [show (((0:Nat):Int)==0)=true from rfl,Zj,ZZh (by omega) hL,Za,Z8g (by omega),Za];simp
 have e2:((H:Int)==0)=false:=by simp;omega
 have hy0:y≠0:=by omega
 obtain ⟨k,hk⟩:=ZPf hy0;have hbl:bl y≤64:=Zkc (by omega);obtain ⟨hy1,hy2⟩:=(ZVf hy0).1 hk;have hz:Zud (y:Int)=some ((64-bl y:Nat):Int):=by
  unfold Zud;rw [if_pos ⟨by omega,by omega⟩];congr 1;simp;omega
 rw [e2,Zh,hz,Za];obtain ⟨s,hs⟩:∃ s,s=64-bl y:=⟨_,rfl⟩;rw [← hs,ZQf (n:=s) (by omega)];have e64s:IntKind.u64.wrap (((64:Int))-(s:Int))=((64-s:Nat):Int):=by rw [wrap_u64];omega
 rw [e64s];have eY:y*2^s<18446744073709551616:=by
  have:=Nat.mul_lt_mul_of_pos_right hy2 (Nat.pow_pos (n:=s) (show 0<2 by omega));rw [← Nat.pow_add,show k+1+s=64 by omega] at this;exact this
 have eY2:9223372036854775808≤y*2^s:=by
  have:=Nat.mul_le_mul_right (2^s) hy1;rw [← Nat.pow_add,show k+s=63 by omega] at this;exact this
 obtain ⟨p1,p2,p3,p4⟩:=ZZp (s:=s) hH hL (by omega) rfl eY;rw [ZOg (by omega),Za,Nat.mod_eq_of_lt eY];have sh32:∀ n:Nat,Zaa .u64 (n:Int) 32=some ((n / 4294967296:Nat):Int):=fun n=>Zrg (x:=n) (k:=32) (by omega);rw [sh32,Za,ZOg (by omega),Za,p1,Zrg (by omega),Za,ZOg (by omega),Za,sh32,Za,Zbl p2 (by omega)];obtain ⟨Y,hY⟩:∃ Y,Y=y*2^s:=⟨_,rfl⟩;obtain ⟨u,hu⟩:∃ u,u=H*2^s+L / 2^(64-s):=⟨_,rfl⟩;obtain ⟨t,ht⟩:∃ t,t=L*2^s%18446744073709551616:=⟨_,rfl⟩;have ht':t<18446744073709551616:=by rw [ht];exact Nat.mod_lt _ (by omega)
 rw [← hY] at eY eY2 p3 ⊢;rw [← hu] at p3 p4 ⊢;rw [← ht] at p4 ⊢;have H1:Half u (t / 4294967296) (Y / 4294967296) (Y%4294967296) Y:=⟨by omega,by omega,by omega,by omega,by omega,p3⟩;have hY0:0<Y:=by omega
 have hy10:0<Y / 4294967296:=by omega
 rw [ZZh (by omega) (by omega),Za,ZRa];have eU:∀ u:Nat,u<Y→IntKind.u64.wrap ((u:Int)-IntKind.u64.wrap (((u / (Y / 4294967296):Nat):Int)*((Y / 4294967296:Nat):Int)))=((u%(Y / 4294967296):Nat):Int):=by
  intro u hu;have h1:=Nat.div_add_mod u (Y / 4294967296);rw [Nat.mul_comm] at h1;rw [← Int.natCast_mul];generalize u / (Y / 4294967296)*(Y / 4294967296)=g at *;generalize u%(Y / 4294967296)=m at *;rw [ZQf (n:=g) (by omega),wrap_u64];omega
 have eDiv:∀ u d:Nat,u<Y→d<4294967296→(u*4294967296+d) / Y≤u / (Y / 4294967296):=by
  intro u d hu hd;have h1:=Nat.div_add_mod Y 4294967296;apply (Nat.le_div_iff_mul_le hy10).2;have h2:=Nat.div_mul_le_self (u*4294967296+d) Y;generalize (u*4294967296+d) / Y=Q at *;have h3:Q*(Y / 4294967296*4294967296)≤Q*Y:=Nat.mul_le_mul_left _ (by omega);rw [← Nat.mul_assoc] at h3;generalize Q*(Y / 4294967296)=g at *;omega
 have eW:∀ q:Nat,0<q→q<18446744073709551616→IntKind.u64.wrap ((q:Int)-1)=((q-1:Nat):Int):=by
  intro q h1 h2;rw [wrap_u64];omega
 have eR:∀ r:Nat,r<4294967296→IntKind.u64.wrap ((r:Int)+((Y / 4294967296:Nat):Int))=((r+Y / 4294967296:Nat):Int):=by
  intro r h1;rw [← Int.natCast_add,ZQf (by omega)]
 rw [eU u p3];refine Zcb (fun s:Int×Int=>∃ q r:Nat,s=((q:Int),(r:Int))∧u=q*(Y / 4294967296)+r∧r<4294967296∧(u*4294967296+t / 4294967296) / Y≤q∧q<18446744073709551616) (fun s=>s.1.toNat)
  (fun r:Int=>r=(((u*4294967296+t / 4294967296) / Y:Nat):Int))
  ⟨u / (Y / 4294967296),u%(Y / 4294967296),rfl,by rw [Nat.mul_comm];exact (Nat.div_add_mod _ _).symm,Nat.lt_trans (Nat.mod_lt _ hy10) (by omega),eDiv u _ p3 (by omega),Nat.lt_of_le_of_lt (Nat.div_le_self _ _) (by omega)⟩
  (ZBa (by simp only [Int.toNat_natCast];exact Nat.lt_of_le_of_lt (Nat.div_le_self _ _) (by omega))) ?_ ?_
 ·rintro _ ⟨q,r,rfl,e,hr,hQ,hq64⟩;simp only;rw [ZSm (y0:=Y%4294967296) 0 rfl eY hr (by omega),Za];rcases ZXl H1 e hr hQ with ⟨h1,h2,h3⟩ | ⟨h1,h2,h3,h4,h5⟩
  ·right;rw [decide_eq_false (by omega),Zh];exact ⟨_,rfl,by rw [h3]⟩
  ·rw [decide_eq_true h1,Zj,eR r hr,eW q h2 hq64];by_cases hb:4294967296≤r+Y / 4294967296
   ·right;rw [decide_eq_true (by omega),Zj];exact ⟨_,rfl,by rw [h5 hb]⟩
   ·left;rw [decide_eq_false (by omega),Zh];exact ⟨_,rfl,⟨q-1,r+Y / 4294967296,rfl,h4,by omega,h3,by omega⟩,by simp;omega⟩
 rintro _ rfl;rw [Za];obtain ⟨Q1,hQ1⟩:∃ Q,Q=(u*4294967296+t / 4294967296) / Y:=⟨_,rfl⟩;have hQ1b:Q1<4294967296:=by
  rw [hQ1,Nat.div_lt_iff_lt_mul hY0];have:(u+1)*4294967296≤Y*4294967296:=Nat.mul_le_mul_right _ p3;rw [Nat.mul_comm 4294967296 Y];omega
 have er1:=ZTo hQ1 eY hY0;rw [← hQ1];have ecm:∀ z:Int,z*((4294967296:Int))=z*4294967296:=fun _=>rfl;rw [er1];obtain ⟨v,hv⟩:∃ v,v=(u*4294967296+t / 4294967296)%Y:=⟨_,rfl⟩;have hvY:v<Y:=by rw [hv];exact Nat.mod_lt _ hY0
 rw [← hv];have H2:Half v (t%4294967296) (Y / 4294967296) (Y%4294967296) Y:=⟨by omega,by omega,by omega,by omega,by omega,hvY⟩;rw [ZZh (by omega) (by omega),Za,ZRa,eU v hvY,ZLe t ht'];refine Zcb (fun s:Int×Int=>∃ q r:Nat,s=((r:Int),(q:Int))∧v=q*(Y / 4294967296)+r∧r<4294967296∧(v*4294967296+t%4294967296) / Y≤q∧q<18446744073709551616) (fun s=>s.2.toNat)
  (fun r:Int=>r=(((v*4294967296+t%4294967296) / Y:Nat):Int))
  ⟨v / (Y / 4294967296),v%(Y / 4294967296),rfl,by rw [Nat.mul_comm];exact (Nat.div_add_mod _ _).symm,Nat.lt_trans (Nat.mod_lt _ hy10) (by omega),eDiv v _ hvY (by omega),Nat.lt_of_le_of_lt (Nat.div_le_self _ _) (by omega)⟩
  (ZBa (by simp only [Int.toNat_natCast];exact Nat.lt_of_le_of_lt (Nat.div_le_self _ _) (by omega))) ?_ ?_
 ·rintro _ ⟨q,r,rfl,e,hr,hQ,hq64⟩;simp only;rw [ZSm (y0:=Y%4294967296) 0 rfl eY hr (by omega),Za];rcases ZXl H2 e hr hQ with ⟨h1,h2,h3⟩ | ⟨h1,h2,h3,h4,h5⟩
  ·right;rw [decide_eq_false (by omega),Zh];exact ⟨_,rfl,by rw [h3]⟩
  ·rw [decide_eq_true h1,Zj,eR r hr,eW q h2 hq64];by_cases hb:4294967296≤r+Y / 4294967296
   ·right;rw [decide_eq_true (by omega),Zj];exact ⟨_,rfl,by rw [h5 hb]⟩
   ·left;rw [decide_eq_false (by omega),Zh];exact ⟨_,rfl,⟨q-1,r+Y / 4294967296,rfl,h4,by omega,h3,by omega⟩,by simp;omega⟩
 rintro _ rfl;rw [Za];obtain ⟨Q0,hQ0⟩:∃ Q,Q=(v*4294967296+t%4294967296) / Y:=⟨_,rfl⟩;have hQ0b:Q0<4294967296:=by
  rw [hQ0,Nat.div_lt_iff_lt_mul hY0];have:(v+1)*4294967296≤Y*4294967296:=Nat.mul_le_mul_right _ hvY;rw [Nat.mul_comm 4294967296 Y];omega
 have er2:=ZTo hQ0 eY hY0;rw [← hQ0,er2,Zrg (by omega),Za];have hd1:=Nat.div_add_mod (u*4294967296+t / 4294967296) Y;have hd2:=Nat.div_add_mod (v*4294967296+t%4294967296) Y;have hm2:=Nat.mod_lt (v*4294967296+t%4294967296) hY0;rw [← hQ1,← hv] at hd1;rw [← hQ0] at hd2;obtain ⟨w,hw⟩:∃ w,w=(v*4294967296+t%4294967296)%Y:=⟨_,rfl⟩;rw [← hw] at hd2 hm2 ⊢;have hN:(H*18446744073709551616+L)*2^s=Y*(Q1*4294967296+Q0)+w:=by
  rw [← p4,Nat.mul_add,← Nat.mul_assoc];generalize Y*Q1=g at *;generalize Y*Q0=g' at *;omega
 have hp:0<2^s:=Nat.pow_pos (by omega);have hMy:(H*18446744073709551616+L) / y=Q1*4294967296+Q0:=by
  have h1:=Nat.mul_div_mul_right (H*18446744073709551616+L) y hp;rw [← hY,hN,Nat.mul_add_div hY0,Nat.div_eq_of_lt hm2,Nat.add_zero] at h1;exact h1.symm
 have hMm:(H*18446744073709551616+L)%y*2^s=w:=by
  have h1:=Nat.mul_mod_mul_right (2^s) (H*18446744073709551616+L) y;rw [← hY,hN,Nat.mul_add_mod,Nat.mod_eq_of_lt hm2] at h1;exact h1.symm
 rw [hMy,← hMm,Nat.mul_div_cancel _ hp];have:IntKind.u64.wrap (IntKind.u64.wrap ((Q1:Int)*4294967296)+(Q0:Int))=((Q1*4294967296+Q0:Nat):Int):=by
  simp only [wrap_u64];omega
 rw [this]
theorem Zcs {hi lo y:Int} {z:Int×Int} (h:Z7c hi lo y=some z):Zug hi lo y=some z:=by
 unfold Z7c at h;split at h
 ·rename_i hh;obtain ⟨h1,h2,h3,h4,h5⟩:=hh;obtain ⟨H,rfl⟩:=Int.eq_ofNat_of_zero_le h1;obtain ⟨L,rfl⟩:=Int.eq_ofNat_of_zero_le h2;obtain ⟨Y,rfl⟩:=Int.eq_ofNat_of_zero_le (show 0≤y by omega);rw [Z1q (by omega) (by omega) (by omega),← h];simp
 ·cases h
noncomputable def ZXg (a:Nat) (n:Int):Option (Nat×Int) :=
 bnd (mk 8 ((((Zd 18446744073709551616 a)).length:Int)) ((((Zd 18446744073709551616 a)).length:Int))) fun o =>
 bnd (chk .i64 (((((Zd 18446744073709551616 a)).length:Int))-(1:Int))) fun f =>
 bnd (bnd (Zo (fun s:(List Int)×Int×Int=>match s with
 | (c,d,b) =>
 (ifb (decide ((0:Int)≤b))
 (bnd (idx ((Zd 18446744073709551616 a)) b) fun g =>
 bnd (Z7c d g n) fun e =>
 bnd (idx c b) fun q =>
 bnd (chk .i64 (b-(1:Int))) fun h =>
 some (.inl (((c.set (b).toNat e.1),e.2,h))))
 (some (.inr ((c,d)))))) Zt (((List.replicate ((((Zd 18446744073709551616 a)).length:Int)).toNat (0:Int)),(0:Int),f)))
 (fun (p:(List Int)×Int)=>match p with
 | (i,j) =>
 (some ((i,j)))))
 (fun (p:(List Int)×Int)=>match p with
 | (k,l) =>
 (bnd (ZCa k) fun m =>
 some ((m,l))))
noncomputable def Zvh (a:Nat) (n:Int):Option (Nat) :=
 bnd (ifb (((((Zd 18446744073709551616 a)).length:Int))==(0:Int))
 (some true)
 (some (n==(0:Int))))
 (fun (j:Bool) =>
 (ifb (j)
 (some a)
 (bnd (quo .i64 n (64:Int)) fun k =>
 bnd (chk .i64 (((((Zd 18446744073709551616 a)).length:Int))+k)) fun l =>
 bnd (chk .i64 (l+(1:Int))) fun e =>
 bnd (mk 8 e e) fun z =>
 bnd (bnd (Zo (fun s:(List Int)×Int=>match s with
 | (b,c) =>
 (ifb (decide (c<(((Zd 18446744073709551616 a)).length:Int)))
 (bnd (idx ((Zd 18446744073709551616 a)) c) fun f =>
 bnd (quo .i64 n (64:Int)) fun m =>
 bnd (chk .i64 (c+m)) fun d =>
 bnd (idx b d) fun g =>
 bnd (rem .i64 n (64:Int)) fun o =>
 bnd (Zfc .u64 f o) fun h =>
 bnd (idx b d) fun A =>
 bnd (quo .i64 n (64:Int)) fun p =>
 bnd (chk .i64 (c+p)) fun q =>
 bnd (chk .i64 (q+(1:Int))) fun i =>
 bnd (rem .i64 n (64:Int)) fun r =>
 bnd (chk .i64 ((64:Int)-r)) fun t =>
 bnd (Zaa .u64 f t) fun u =>
 bnd (idx ((b.set (d).toNat (orI .u64 g h))) i) fun B =>
 bnd (chk .i64 (c+(1:Int))) fun v =>
 some (.inl (((((b.set (d).toNat (orI .u64 g h))).set (i).toNat u),v))))
 (some (.inr b)))) Zt (((List.replicate (e).toNat (0:Int)),(0:Int))))
 (fun (w:(List Int)) =>
 (some w)))
 (fun (x:(List Int)) =>
 (bnd (ZCa x) fun y =>
 some y)))))
noncomputable def Zxh (a:Nat) (n:Int):Option (Nat) :=
 bnd (quo .i64 n (64:Int)) fun f =>
 ifb (decide ((((Zd 18446744073709551616 a)).length:Int)≤f))
 (some ((0:Nat)))
 (bnd (quo .i64 n (64:Int)) fun g =>
 bnd (chk .i64 (((((Zd 18446744073709551616 a)).length:Int))-g)) fun d =>
 bnd (mk 8 d d) fun D =>
 bnd (bnd (Zo (fun s:(List Int)×Int=>match s with
 | (c,b) =>
 (ifb (decide (b<(((List.replicate (d).toNat (0:Int))).length:Int)))
 (bnd (quo .i64 n (64:Int)) fun h =>
 bnd (chk .i64 (b+h)) fun i =>
 bnd (idx ((Zd 18446744073709551616 a)) i) fun j =>
 bnd (rem .i64 n (64:Int)) fun k =>
 bnd (Zaa .u64 j k) fun e =>
 bnd (idx c b) fun E =>
 bnd (quo .i64 n (64:Int)) fun l =>
 bnd (chk .i64 (b+l)) fun m =>
 bnd (chk .i64 (m+(1:Int))) fun o =>
 bnd (ifb (decide (o<(((Zd 18446744073709551616 a)).length:Int)))
 (bnd (idx ((c.set (b).toNat e)) b) fun p =>
 bnd (quo .i64 n (64:Int)) fun q =>
 bnd (chk .i64 (b+q)) fun r =>
 bnd (chk .i64 (r+(1:Int))) fun t =>
 bnd (idx ((Zd 18446744073709551616 a)) t) fun u =>
 bnd (rem .i64 n (64:Int)) fun v =>
 bnd (chk .i64 ((64:Int)-v)) fun w =>
 bnd (Zfc .u64 u w) fun x =>
 bnd (idx ((c.set (b).toNat e)) b) fun F =>
 some ((((c.set (b).toNat e)).set (b).toNat (orI .u64 p x))))
 (some ((c.set (b).toNat e))))
 (fun (y:(List Int)) =>
 (bnd (chk .i64 (b+(1:Int))) fun z =>
 some (.inl ((y,z))))))
 (some (.inr c)))) Zt (((List.replicate (d).toNat (0:Int)),(0:Int))))
 (fun (A:(List Int)) =>
 (some A)))
 (fun (B:(List Int)) =>
 (bnd (ZCa B) fun C =>
 some C)))
theorem ZXt {q r rest x V W B d:Nat} (h:V*d+rest=W) (e:q*d+r=rest*B+x):(q+B*V)*d+r=x+B*W:=by
 subst h;grind
theorem Z8r {n d:Nat} (hn:okN n) (hd:0<d) (hd':d<18446744073709551616):ZXg n (d:Int)=some (n / d,((n%d:Nat):Int)):=by
 unfold ZXg;have hdx:=Zgb (B:=18446744073709551616) (by decide) n;have hvx:=Zbb (B:=18446744073709551616) (by decide) n;unfold okN at hn;generalize Zd 18446744073709551616 n=a at *;obtain ⟨u,hu⟩:=Z5d (b:=8) (l:=(a.length:Int)) (c:=(a.length:Int)) (by omega) (by omega) (by omega) (by omega);rw [hu,Za,Zu (by omega) (by omega),Za,ZRa];refine Zcb (fun s:(List Int)×Int×Int=>∃ k r:Nat,s.2.2=(k:Int)-1∧s.2.1=(r:Int)∧k≤a.length∧s.1.length=a.length∧r<d ∧
  val 18446744073709551616 (s.1.drop k)*d+r=val 18446744073709551616 (a.drop k)) (fun s=>(s.2.2+1).toNat)
  (fun r:List Int×Int=>val 18446744073709551616 r.1=n / d∧r.2=((n%d:Nat):Int))
  ⟨a.length,0,rfl,rfl,by omega,by simp,hd,by simp [val]⟩ (ZBa (by simp;omega)) ?_ ?_
 ·rintro ⟨out,c,i⟩ ⟨k,r,e1,e2,hk,ho,hr,hv⟩;simp only at e1 e2 ho hv ⊢;subst e1 e2;by_cases h0:0<k
  ·left;obtain ⟨j,rfl⟩:∃ j,k=j+1:=⟨k-1,by omega⟩;have hj:j<a.length:=by omega
   have hx:=hdx.get hj;obtain ⟨X,hX⟩:=Int.eq_ofNat_of_zero_le hx.1;have ej:((j+1:Nat):Int)-1=(j:Int):=by omega
   rw [ej,decide_eq_true (by omega),Zj,ZT hj,Za,hX];have hdv:Z7c (r:Int) (X:Int) (d:Int)=some ((((r*18446744073709551616+X) / d:Nat):Int),(((r*18446744073709551616+X)%d:Nat):Int)):=by
    unfold Z7c;rw [if_pos ⟨by omega,by omega,by omega,by omega,by omega⟩];simp
   rw [hdv,Za,ZT (by omega),Za,Zu (by omega) (by omega),Za];refine ⟨_,rfl,⟨j,_,rfl,rfl,by omega,by simp [ho],Nat.mod_lt _ hd,?_⟩,by simp⟩;simp only [Int.toNat_natCast];rw [ZFc (by simp;omega),List.getElem_set_self,List.drop_set_of_lt (by omega),ZFc hj,hX];simp only [Int.toNat_natCast];exact ZXt hv (by rw [Nat.mul_comm];exact Nat.div_add_mod _ _)
  ·right;have:k=0:=by omega
   subst this;rw [decide_eq_false (by simp),Zh];simp only [List.drop_zero] at hv;rw [hvx] at hv;refine ⟨_,rfl,?_,?_⟩
   ·rw [← hv,Nat.mul_comm,Nat.mul_add_div hd,Nat.div_eq_of_lt hr];rfl
   ·rw [← hv,Nat.mul_comm,Nat.mul_add_mod,Nat.mod_eq_of_lt hr]
 ·rintro ⟨out,c⟩ ⟨hv,hc⟩;simp only at hv hc ⊢;rw [Za];simp only;unfold ZCa;rw [Za,hv,hc]
theorem ZYq {n:Nat} {d:Int} {z:Nat×Int} (hd:inR .u64 d) (h:ZDd n d=some z):ZXg n d=some z:=by
 unfold ZDd at h;split at h
 ·rename_i hh;obtain ⟨h1,h2⟩:=hh;have:=ZTc.1 hd;obtain ⟨D,rfl⟩:=Int.eq_ofNat_of_zero_le (show 0≤d by omega);rw [Z8r h1 (by omega) (by omega),← h];simp
 ·cases h
theorem Znn {p q:Nat} (hq:0<q) (hp:p≤9223372036854775807):quo .i64 (p:Int) (q:Int)=some ((p / q:Nat):Int):=by
 unfold quo;rw [if_neg (by omega)];have e:(p:Int).tdiv (q:Int)=((p / q:Nat):Int):=by simp [Int.tdiv_eq_ediv_of_nonneg]
 have h:p / q≤p:=Nat.div_le_self _ _;generalize p / q=r at *;rw [e,Zu (by omega) (by omega)]
theorem Zub {n:Nat} (h:n≤9223372036854775807):chk .i64 (n:Int)=some (n:Int):=Zu (by omega) (by omega)
theorem Znp {V V1 V2 t1 t2 T x K B Q hi lo R P:Nat} (hv:V=T*K) (h1:V1+Q*t1=V+Q*(t1+lo)) (h2:V2+Q*B*t2=V1+Q*B*hi) (ht2:t2=0) (e:lo+B*hi=x*R) (hQ:Q*R=P*K):V2=(T+P*x)*K:=by
 subst hv ht2;have:Q*(lo+B*hi)=Q*(x*R):=by rw [e]
 grind
theorem left_eq {n k:Nat} (hn:okN n) (hk:k≤1099511627776):Zvh n (k:Int)=some (n*2^k):=by
 unfold Zvh;by_cases hn0:n=0
 ·subst hn0;rw [Zva];show some 0=_;simp
 by_cases hk0:k=0
 ·subst hk0;have:(((Zd 18446744073709551616 n).length:Int)==0)=false:=by
   have:=(Z7d (n:=n) (B:=18446744073709551616) (by decide)).2 hn0;have:=List.length_pos_iff.2 this;simp;omega
  rw [this];show some n=_;simp
 have e1:(((Zd 18446744073709551616 n).length:Int)==0)=false:=by
  have:=(Z7d (n:=n) (B:=18446744073709551616) (by decide)).2 hn0;have:=List.length_pos_iff.2 this;simp;omega
 have e2:((k:Int)==0)=false:=by simp;omega
 rw [e1,Zh,e2,Za,Zh];have hdx:=Zgb (B:=18446744073709551616) (by decide) n;have hvx:=Zbb (B:=18446744073709551616) (by decide) n;unfold okN at hn;generalize Zd 18446744073709551616 n=a at *;have eq64:quo .i64 (k:Int) 64=some ((k / 64:Nat):Int):=Znn (q:=64) (by omega) (by omega);have er64:rem .i64 (k:Int) 64=some ((k%64:Nat):Int):=Z8g (q:=64) (by omega);obtain ⟨w,hw⟩:∃ w,w=k / 64:=⟨_,rfl⟩;obtain ⟨s,hs⟩:∃ s,s=k%64:=⟨_,rfl⟩;have hks:k=64*w+s:=by omega
 rw [← hw] at eq64;rw [← hs] at er64;rw [eq64,Za];have c1:chk .i64 ((a.length:Int)+(w:Int))=some ((a.length+w:Nat):Int):=by rw [← Int.natCast_add,Zub (by omega)]
 have c2:chk .i64 (((a.length+w:Nat):Int)+1)=some ((a.length+w+1:Nat):Int):=by rw [show ((a.length+w:Nat):Int)+1=((a.length+w+1:Nat):Int) by omega,Zub (by omega)]
 obtain ⟨u,hu⟩:=Z5d (b:=8) (l:=((a.length+w+1:Nat):Int)) (c:=((a.length+w+1:Nat):Int)) (by omega) (by omega) (by omega) (by omega);rw [c1,Za,c2,Za,hu,Za,ZRa,Int.toNat_natCast];have hp:0<2^s:=Nat.pow_pos (by omega);have hB:2^(64-s)*2^s=18446744073709551616:=by rw [← Nat.pow_add,show 64-s+s=64 by omega]
 have hR:18446744073709551616^w*2^s=2^k:=by
  rw [show (18446744073709551616:Nat)=2^64 from rfl,← Nat.pow_mul,← Nat.pow_add,← hks]
 refine Zcb (fun st:(List Int)×Int=>∃ i:Nat,st.2=(i:Int)∧i≤a.length∧st.1.length=a.length+w+1∧Dig 18446744073709551616 st.1 ∧
  val 18446744073709551616 st.1=val 18446744073709551616 (a.take i)*2^k∧(∀ j (h:j<st.1.length),j=i+w→st.1[j]<(2^s:Nat))∧∀ j (h:j<st.1.length),i+w<j→st.1[j]=0) (fun st=>a.length-st.2.toNat)
  (fun r:List Int=>val 18446744073709551616 r=n*2^k) ⟨0,rfl,by omega,by simp,Dig.replicate _ (by omega),by simp [val,ZHm],by intro j h _;simp;exact_mod_cast hp,by simp⟩ (ZBa (by simp;omega)) ?_ ?_
 ·rintro ⟨out,i⟩ ⟨i,rfl,hi,ho,hd,hv,ht,hz⟩;simp only at ho hd hv ht hz ⊢;by_cases hlt:i<a.length
  ·left;have hx:=hdx.get hlt;obtain ⟨X,hX⟩:=Int.eq_ofNat_of_zero_le hx.1;have hiw:i+w<out.length:=by omega
   have ht':=ht _ hiw rfl;obtain ⟨T,hT⟩:=Int.eq_ofNat_of_zero_le (hd.get hiw).1;have c3:chk .i64 ((i:Int)+(w:Int))=some ((i+w:Nat):Int):=by rw [← Int.natCast_add,Zub (by omega)]
   have c4:chk .i64 (((i+w:Nat):Int)+1)=some ((i+w+1:Nat):Int):=by rw [show ((i+w:Nat):Int)+1=((i+w+1:Nat):Int) by omega,Zub (by omega)]
   have c5:chk .i64 (64-(s:Int))=some ((64-s:Nat):Int):=by rw [show 64-(s:Int)=((64-s:Nat):Int) by omega,Zub (by omega)]
   have c6:decide ((i:Int)<(a.length:Int))=true:=decide_eq_true (by omega);have c7:=ZOg (x:=X) (k:=s) (by omega);have c8:=Zrg (x:=X) (k:=64-s) (by omega);simp only [c6,Zj,ZT hlt,Za,eq64,c3,ZT hiw,er64,hX,c7,c4,c5,c8];have hTs:T<2^s:=by rw [hT] at ht';exact_mod_cast ht'
   have hXlt:X<18446744073709551616:=by omega
   have hdm:=Nat.div_add_mod (X*2^s) 18446744073709551616;have hdiv:X*2^s / 18446744073709551616=X / 2^(64-s):=by rw [← hB,Nat.mul_div_mul_right _ _ hp]
   have hmod:X*2^s%18446744073709551616=X%2^(64-s)*2^s:=by rw [← hB,Nat.mul_mod_mul_right]
   rw [hdiv] at hdm;have hhi:X / 2^(64-s)<2^s:=by
    rw [Nat.div_lt_iff_lt_mul (Nat.pow_pos (by omega)),Nat.mul_comm,hB];exact hXlt
   have hlo:X%2^(64-s)*2^s+T<18446744073709551616:=by
    have h1:X%2^(64-s)+1≤2^(64-s):=Nat.mod_lt _ (Nat.pow_pos (by omega));have h2:=Nat.mul_le_mul_right (2^s) h1;rw [hB,Nat.add_mul] at h2;omega
   have hor:orI .u64 ((T:Nat):Int) ((X*2^s%18446744073709551616:Nat):Int)=((X*2^s%18446744073709551616+T:Nat):Int):=by
    have hc:orI .u64 (T:Int) ((X*2^s%18446744073709551616:Nat):Int)=orI .u64 ((X*2^s%18446744073709551616:Nat):Int) (T:Int):=by
     unfold orI;rw [BitVec.or_comm]
    rw [hc,hmod,Zbl hTs hlo]
   simp only [Int.toNat_natCast];rw [hT,hor];have hiw1:i+w+1<(out.set (i+w) ((X*2^s%18446744073709551616+T:Nat):Int)).length:=by simp;omega
   rw [ZT hiw1,Za,Zu (by omega) (by omega),Za];have h2s:2^s≤18446744073709551616:=by rw [← hB];exact Nat.le_mul_of_pos_left _ (Nat.pow_pos (by omega))
   refine ⟨_,rfl,⟨i+1,by simp,by omega,by simp [ho],?_,?_,?_,?_⟩,by simp;omega⟩
   ·refine (hd.set _ ?_).set _ ?_
    ·rw [hmod];omega
    ·omega
   ·have h1:=ZHi (B:=18446744073709551616) (l:=out) (i:=i+w) (x:=((X*2^s%18446744073709551616+T:Nat):Int)) hiw;have h2:=ZHi (B:=18446744073709551616) (x:=((X / 2^(64-s):Nat):Int)) hiw1;rw [List.getElem_set_ne (by omega),hz _ (by omega) (by omega)] at h2;rw [hT] at h1;simp only [Int.toNat_natCast] at h1 h2;rw [ZGb hlt,hX];simp only [Int.toNat_natCast];rw [Nat.pow_succ] at h2;rw [Nat.add_comm (X*2^s%18446744073709551616) T] at h1 h2 ⊢;exact Znp (R:=2^s) hv h1 h2 rfl (by omega) (by rw [Nat.pow_add,Nat.mul_assoc,hR])
   ·intro j hj hj2;have hj3:j=i+w+1:=by omega
    subst hj3;rw [List.getElem_set_self]
    exact_mod_cast hhi
   ·intro j hj hj2;rw [List.getElem_set_ne (by omega),List.getElem_set_ne (by omega)];exact hz j (by simpa using hj) (by omega)
  ·right;rw [decide_eq_false (by omega),Zh];have hi':i=a.length:=by omega
   subst hi';rw [List.take_length,hvx] at hv;exact ⟨_,rfl,hv⟩
 ·rintro out hv;rw [Za];unfold ZCa;rw [hv,Za]
theorem Zgr {n:Nat} {k:Int} {z:Nat} (h:ZJd n k=some z):Zvh n k=some z:=by
 unfold ZJd at h;split at h
 ·rename_i hh;obtain ⟨h1,h2,h3⟩:=hh;obtain ⟨K,rfl⟩:=Int.eq_ofNat_of_zero_le h2;rw [left_eq h1 (by omega),← h];simp
 ·cases h
theorem Z8p {V T x xs x' xs' ph P B R D lo0:Nat} (h:V*R+lo0=T+P*xs) (e:D*R+xs=x+B*xs'):(V+P*D)*R+lo0=T+P*x+P*B*xs':=by
 have:P*(D*R+xs)=P*(x+B*xs'):=by rw [e]
 grind
theorem ZFp {n k:Nat} (hn:okN n) (hk:k≤9223372036854775807):Zxh n (k:Int)=some (n / 2^k):=by
 unfold Zxh;have hdx:=Zgb (B:=18446744073709551616) (by decide) n;have hvx:=Zbb (B:=18446744073709551616) (by decide) n;unfold okN at hn;generalize Zd 18446744073709551616 n=a at *;have eq64:quo .i64 (k:Int) 64=some ((k / 64:Nat):Int):=Znn (q:=64) (by omega) (by omega);have er64:rem .i64 (k:Int) 64=some ((k%64:Nat):Int):=Z8g (q:=64) (by omega);obtain ⟨w,hw⟩:∃ w,w=k / 64:=⟨_,rfl⟩;obtain ⟨s,hs⟩:∃ s,s=k%64:=⟨_,rfl⟩;have hks:k=64*w+s:=by omega
 rw [← hw] at eq64;rw [← hs] at er64;have hR:18446744073709551616^w*2^s=2^k:=by
  rw [show (18446744073709551616:Nat)=2^64 from rfl,← Nat.pow_mul,← Nat.pow_add,← hks]
 rw [eq64,Za];by_cases hwl:a.length≤w
 ·rw [decide_eq_true (by omega),Zj];congr 1;symm;apply Nat.div_eq_of_lt;have h1:=Zdd hdx;rw [hvx] at h1;have h2:18446744073709551616^a.length≤18446744073709551616^w:=Nat.pow_le_pow_right (by omega) hwl;have h3:18446744073709551616^w*1≤18446744073709551616^w*2^s:=Nat.mul_le_mul_left _ (Nat.pow_pos (by omega));omega
 rw [decide_eq_false (by omega),Zh,Za];have c1:chk .i64 ((a.length:Int)-(w:Int))=some ((a.length-w:Nat):Int):=by rw [Zu (by omega) (by omega)];congr 1;omega
 obtain ⟨u,hu⟩:=Z5d (b:=8) (l:=((a.length-w:Nat):Int)) (c:=((a.length-w:Nat):Int)) (by omega) (by omega) (by omega) (by omega);rw [c1,Za,hu,Za,ZRa,Int.toNat_natCast];have hp:0<2^s:=Nat.pow_pos (by omega);have hB:2^(64-s)*2^s=18446744073709551616:=by rw [← Nat.pow_add,show 64-s+s=64 by omega]
 have hB':2^s*2^(64-s)=18446744073709551616:=by rw [Nat.mul_comm];exact hB
 have h2s:2^s≤18446744073709551616:=by rw [← hB];exact Nat.le_mul_of_pos_left _ (Nat.pow_pos (by omega))
 obtain ⟨A,hA⟩:∃ A,A=a.drop w:=⟨_,rfl⟩;have hAl:A.length=a.length-w:=by rw [hA,List.length_drop]
 have hdA:Dig 18446744073709551616 A:=by rw [hA];exact hdx.drop w
 have hAg:∀ j (h:j<A.length),A[j]=a[j+w]'(by omega):=by intro j h;subst hA;simp [Nat.add_comm]
 have low:∀ j,∃ q:Nat,(∀ (h:j<A.length),A[j]=(q:Int))∧(A.length≤j→q=0)∧q<18446744073709551616:=by
  intro j;by_cases h:j<A.length
  ·obtain ⟨X,hX⟩:=Int.eq_ofNat_of_zero_le (hdA.get h).1;have:=(hdA.get h).2;exact ⟨X,fun _=>hX,fun h'=>by omega,by omega⟩
  ·exact ⟨0,fun h'=>by omega,fun _=>rfl,by omega⟩
 have hrep:(List.replicate (a.length-w) (0:Int)).length=A.length:=by simp [hAl]
 rw [hrep];obtain ⟨q0,hq0⟩:=low 0;refine Zcb (fun st:(List Int)×Int=>∃ i q:Nat,st.2=(i:Int)∧i≤A.length∧st.1.length=A.length∧Dig 18446744073709551616 st.1 ∧
  ((∀ (h:i<A.length),A[i]=(q:Int))∧(A.length≤i→q=0)∧q<18446744073709551616) ∧
  val 18446744073709551616 (st.1.take i)*2^s+q0%2^s=val 18446744073709551616 (A.take i)+18446744073709551616^i*(q%2^s)) (fun st=>A.length-st.2.toNat)
  (fun r:List Int=>r.length=A.length∧val 18446744073709551616 r*2^s+q0%2^s=val 18446744073709551616 A) ⟨0,q0,rfl,by omega,by simp [hAl],Dig.replicate _ (by omega),hq0,by simp [val]⟩ (ZBa (by simp;omega)) ?_ ?_
 ·rintro ⟨out,i⟩ ⟨i,q,rfl,hi,ho,hd,⟨hq1,hq2,hq3⟩,hv⟩;simp only at ho hd hv ⊢;by_cases hlt:i<A.length
  ·left;have hq:=hq1 hlt;obtain ⟨q',hq'1,hq'2,hq'3⟩:=low (i+1);have hio:i<out.length:=by omega
   have hia:i+w<a.length:=by omega
   have c3:chk .i64 ((i:Int)+(w:Int))=some ((i+w:Nat):Int):=by rw [← Int.natCast_add,Zub (by omega)]
   have c4:chk .i64 (((i+w:Nat):Int)+1)=some ((i+w+1:Nat):Int):=by rw [show ((i+w:Nat):Int)+1=((i+w+1:Nat):Int) by omega,Zub (by omega)]
   have c5:chk .i64 (64-(s:Int))=some ((64-s:Nat):Int):=by rw [show 64-(s:Int)=((64-s:Nat):Int) by omega,Zub (by omega)]
   have c6:decide ((i:Int)<(A.length:Int))=true:=decide_eq_true (by omega);have c8:=Zrg (x:=q) (k:=s) (by omega);have c9:chk .i64 ((i:Int)+1)=some ((i+1:Nat):Int):=by rw [show (i:Int)+1=((i+1:Nat):Int) by omega,Zub (by omega)]
   have haq:a[i+w]=(q:Int):=by rw [← hAg i hlt];exact hq
   have hqs:q / 2^s<2^(64-s):=by rw [Nat.div_lt_iff_lt_mul hp,hB];exact hq3
   have hqd:=Nat.div_add_mod q (2^s);have hqle:q / 2^s≤q:=Nat.div_le_self _ _;simp only [c6,Zj,Za,eq64,c3,ZT hia,er64,haq,c8,ZT hio,c4];have key:∀ D:Nat,D<18446744073709551616→D*2^s+q%2^s=q+18446744073709551616*(q'%2^s)→val 18446744073709551616 ((out.set i (D:Int)).take (i+1))*2^s+q0%2^s=val 18446744073709551616 (A.take (i+1))+18446744073709551616^(i+1)*(q'%2^s):=by
    intro D hD e;rw [Zyf hio,ZGb hlt,hq,Nat.pow_succ];simp only [Int.toNat_natCast];exact Z8p (x':=0) (ph:=0) hv e
   by_cases hnext:i+1<A.length
   ·have hia1:i+w+1<a.length:=by omega
    have haq':a[i+w+1]=(q':Int):=by
     have h1:=hAg _ hnext;rw [hq'1 hnext] at h1;have e:i+1+w=i+w+1:=by omega
     simp only [e] at h1;exact h1.symm
    have c10:=ZOg (x:=q') (k:=64-s) (by omega);have c11:decide (((i+w+1:Nat):Int)<(a.length:Int))=true:=decide_eq_true (by omega);have hmod:q'*2^(64-s)%18446744073709551616=q'%2^s*2^(64-s):=by rw [← hB',Nat.mul_mod_mul_right]
    have hlo:q'%2^s*2^(64-s)+q / 2^s<18446744073709551616:=by
     have h1:q'%2^s+1≤2^s:=Nat.mod_lt _ hp;have h2:=Nat.mul_le_mul_right (2^(64-s)) h1;rw [hB',Nat.add_mul] at h2;omega
    have hor:orI .u64 ((q / 2^s:Nat):Int) ((q'*2^(64-s)%18446744073709551616:Nat):Int)=((q'%2^s*2^(64-s)+q / 2^s:Nat):Int):=by
     have hc:orI .u64 ((q / 2^s:Nat):Int) ((q'*2^(64-s)%18446744073709551616:Nat):Int)=orI .u64 ((q'*2^(64-s)%18446744073709551616:Nat):Int) ((q / 2^s:Nat):Int):=by
      unfold orI;rw [BitVec.or_comm]
     rw [hc,hmod,Zbl hqs hlo]
    have c12:idx (out.set i ((q / 2^s:Nat):Int)) (i:Int)=some ((q / 2^s:Nat):Int):=by
     rw [ZT (by simp;omega),List.getElem_set_self]
    have c13:i<(out.set i ((q / 2^s:Nat):Int)).length:=by simp;omega
    simp only [c11,Zj,Za,Int.toNat_natCast,c12,eq64,c3,c4,c5,er64,ZT hia1,haq',c10,hor,c9,List.set_set];refine ⟨_,rfl,⟨i+1,q',rfl,by omega,by simp [ho],hd.set _ ⟨Int.natCast_nonneg _,by exact_mod_cast hlo⟩,⟨hq'1,hq'2,hq'3⟩,?_⟩,by simp;omega⟩;refine key _ hlo ?_;rw [Nat.add_mul,Nat.mul_assoc,hB];have:=Nat.mul_comm (2^s) (q / 2^s);omega
   ·have c11:decide (((i+w+1:Nat):Int)<(a.length:Int))=false:=decide_eq_false (by omega);simp only [c11,Zh,Za,Int.toNat_natCast,c9];refine ⟨_,rfl,⟨i+1,q',rfl,by omega,by simp [ho],hd.set _ ⟨Int.natCast_nonneg _,by exact_mod_cast (Nat.lt_of_le_of_lt hqle hq3)⟩,⟨hq'1,hq'2,hq'3⟩,?_⟩,by simp;omega⟩;refine key _ (Nat.lt_of_le_of_lt hqle hq3) ?_;rw [hq'2 (by omega)];have:=Nat.mul_comm (2^s) (q / 2^s);simp;omega
  ·right;have c6:decide ((i:Int)<(A.length:Int))=false:=decide_eq_false (by omega);simp only [c6,Zh];have hi':i=A.length:=by omega
   subst hi';rw [hq2 (by omega),← ho,List.take_length,ho,List.take_length] at hv;exact ⟨_,rfl,ho,by simpa using hv⟩
 ·rintro out ⟨ho,hv⟩;rw [Za];unfold ZCa;rw [Za];congr 1;have h1:n / 2^k=val 18446744073709551616 A / 2^s:=by
   have h2:=Zcd 18446744073709551616 a w (by omega);rw [← hA,hvx] at h2;have h3:=Zdd (hdx.take w);rw [List.length_take,Nat.min_eq_left (by omega)] at h3;rw [← hR,← Nat.div_div_eq_div_mul,h2,Nat.add_comm,Nat.mul_add_div (Nat.pow_pos (by omega)),Nat.div_eq_of_lt h3,Nat.add_zero]
  rw [h1,← hv,Nat.mul_comm,Nat.mul_add_div hp,Nat.div_eq_of_lt (Nat.mod_lt _ hp),Nat.add_zero]
theorem ZHs {n:Nat} {k:Int} {z:Nat} (hk:inR .i64 k) (h:Zcg n k=some z):Zxh n k=some z:=by
 unfold Zcg at h;split at h
 ·rename_i hh;obtain ⟨h1,h2⟩:=hh;have:=ZZb.1 hk;obtain ⟨K,rfl⟩:=Int.eq_ofNat_of_zero_le h2;rw [ZFp h1 (by omega),← h];simp
 ·cases h
noncomputable def ZAg (u:(List Int)) (v:Nat) (q:Int):Option (Bool×(List Int)) :=
 bnd (chk .i64 (((((Zd 18446744073709551616 v)).length:Int))+(1:Int))) fun d =>
 bnd (mk 8 d d) fun D =>
 bnd (bnd (Zo (fun s:(List Int)×Int×Int=>match s with
 | (e,g,b) =>
 (ifb (decide (b<(((Zd 18446744073709551616 v)).length:Int)))
 (bnd (idx ((Zd 18446744073709551616 v)) b) fun l =>
 bnd (Z5b l q) fun h =>
 bnd (Z5a h.2 g (0:Int)) fun i =>
 bnd (idx e b) fun E =>
 bnd (chk .i64 (b+(1:Int))) fun m =>
 some (.inl (((e.set (b).toNat i.1),IntKind.u64.wrap (h.1+i.2),m))))
 (some (.inr ((e,g)))))) Zt (((List.replicate (d).toNat (0:Int)),(0:Int),(0:Int))))
 (fun (p:(List Int)×Int)=>match p with
 | (n,o) =>
 (some ((n,o)))))
 (fun (p:(List Int)×Int)=>match p with
 | (f,j) =>
 (bnd (idx f ((((Zd 18446744073709551616 v)).length:Int))) fun F =>
 bnd (ZCa u) fun r =>
 bnd (ZCa ((f.set ((((Zd 18446744073709551616 v)).length:Int)).toNat j))) fun t =>
 bnd (ZAc r t) fun w =>
 ifb (decide (w<(0:Int)))
 (some ((false,u)))
 (bnd (bnd (Zo (fun s:(List Int)×Int×Int=>match s with
 | (c,x,a) =>
 (ifb (decide (a<(u.length:Int)))
 (bnd (idx c a) fun y =>
 bnd (idx ((f.set ((((Zd 18446744073709551616 v)).length:Int)).toNat j)) a) fun z =>
 bnd (ZIc y z x) fun k =>
 bnd (idx c a) fun G =>
 bnd (chk .i64 (a+(1:Int))) fun A =>
 some (.inl (((c.set (a).toNat k.1),k.2,A))))
 (some (.inr c)))) Zt ((u,(0:Int),(0:Int))))
 (fun (B:(List Int)) =>
 (some B)))
 (fun (C:(List Int)) =>
 (some ((true,C)))))))
noncomputable def ZPg (n:Int):Option (Nat) :=
 bnd (ZCa ([n])) fun a =>
 some a
theorem Zln {n:Int} {z:Nat} (h:Z1b n=some z):ZPg n=some z:=by
 unfold Z1b at h;unfold ZPg ZCa;rw [Za,← h];simp [val]
theorem ZHt {V Q P c c' d y q B:Nat} (h:V+Q*c=P*q) (e:d+B*c'=y*q+c):(V+Q*d)+Q*B*c'=(P+Q*y)*q:=by
 have:Q*(d+B*c')=Q*(y*q+c):=by rw [e]
 grind
theorem take_eq {u:List Int} {v q:Nat} (hd:Dig 18446744073709551616 u) (hv:okN v) (hl:u.length=(Zd 18446744073709551616 v).length+1) (hq:q<18446744073709551616) :
  ZAg u v (q:Int)=if val 18446744073709551616 u<v*q then some (false,u) else some (true,Z7a u.length (val 18446744073709551616 u-v*q)):=by
 unfold ZAg;have hdx:=Zgb (B:=18446744073709551616) (by decide) v;have hvx:=Zbb (B:=18446744073709551616) (by decide) v;unfold okN at hv;generalize Zd 18446744073709551616 v=a at *;have c1:chk .i64 ((a.length:Int)+1)=some ((a.length+1:Nat):Int):=by rw [show (a.length:Int)+1=((a.length+1:Nat):Int) by omega,Zub (by omega)]
 obtain ⟨w,hw⟩:=Z5d (b:=8) (l:=((a.length+1:Nat):Int)) (c:=((a.length+1:Nat):Int)) (by omega) (by omega) (by omega) (by omega);rw [c1,Za,hw,Za,ZRa,Int.toNat_natCast];have goal_some:∃ z,(if val 18446744073709551616 u<v*q then some (false,u) else some (true,Z7a u.length (val 18446744073709551616 u-v*q)))=some z:=by split <;> exact ⟨_,rfl⟩
 obtain ⟨z,hz⟩:=goal_some;rw [hz];refine Zcb (fun s:(List Int)×Int×Int=>∃ k c:Nat,s.2.2=(k:Int)∧s.2.1=(c:Int)∧k≤a.length∧s.1.length=a.length+1∧Dig 18446744073709551616 s.1∧c<18446744073709551616 ∧
  val 18446744073709551616 (s.1.take k)+18446744073709551616^k*c=val 18446744073709551616 (a.take k)*q) (fun s=>a.length-s.2.2.toNat)
  (fun r:List Int×Int=>∃ c:Nat,r.2=(c:Int)∧r.1.length=a.length+1∧Dig 18446744073709551616 r.1∧c<18446744073709551616∧val 18446744073709551616 (r.1.take a.length)+18446744073709551616^a.length*c=v*q)
  ⟨0,0,rfl,rfl,by omega,by simp,Dig.replicate _ (by omega),by omega,by simp [val]⟩ (ZBa (by simp;omega)) ?_ ?_
 ·rintro ⟨p,c,i⟩ ⟨k,c,rfl,rfl,hk,ho,hdp,hc,hv2⟩;simp only at ho hdp hv2 ⊢;by_cases hlt:k<a.length
  ·left;have hx:=hdx.get hlt;obtain ⟨X,hX⟩:=Int.eq_ofNat_of_zero_le hx.1;have hX':X<18446744073709551616:=by omega
   have hxq:X*q≤18446744073709551615*18446744073709551615:=Nat.mul_le_mul (by omega) (by omega);have c2:decide ((k:Int)<(a.length:Int))=true:=decide_eq_true (by omega);have c3:chk .i64 ((k:Int)+1)=some ((k+1:Nat):Int):=by rw [show (k:Int)+1=((k+1:Nat):Int) by omega,Zub (by omega)]
   have hkp:k<p.length:=by omega
   have c4:=Ztl hX' hq;have c5:=ZFh (x:=((X*q%18446744073709551616:Nat):Int)) (y:=(c:Int)) (c:=0) (by omega) (by omega) (by omega) (by omega);simp only [c2,Zj,ZT hlt,Za,hX,c4,c5,ZT hkp,c3];generalize hp:X*q=t at *;have e1:IntKind.u64.wrap (((t / 18446744073709551616:Nat):Int)+(((t%18446744073709551616:Nat):Int)+(c:Int)+0) / 18446744073709551616)=(((t+c) / 18446744073709551616:Nat):Int):=by
    rw [wrap_u64];omega
   have e2:(((t%18446744073709551616:Nat):Int)+(c:Int)+0)%18446744073709551616=(((t+c)%18446744073709551616:Nat):Int):=by omega
   rw [e1,e2];refine ⟨_,rfl,⟨k+1,_,rfl,rfl,by omega,by simp [ho],hdp.set _ ⟨by omega,by omega⟩,by omega,?_⟩,by simp;omega⟩;simp only [Int.toNat_natCast];rw [Zyf hkp,ZGb hlt,hX,Nat.pow_succ];simp only [Int.toNat_natCast];exact ZHt hv2 (by rw [hp];omega)
  ·right;have c2:decide ((k:Int)<(a.length:Int))=false:=decide_eq_false (by omega);simp only [c2,Zh];have hk':k=a.length:=by omega
   subst hk';rw [List.take_length,hvx] at hv2;exact ⟨_,rfl,c,rfl,ho,hdp,hc,hv2⟩
 ·rintro ⟨p,c⟩ ⟨c,hcc,ho,hdp,hc,hv2⟩;simp only at hcc ho hdp hv2;subst hcc;rw [Za];have hlp:a.length<p.length:=by omega
  simp only [ZT hlp,Za,Int.toNat_natCast];obtain ⟨P,hP⟩:∃ P,P=p.set a.length (c:Int):=⟨_,rfl⟩;have hPl:P.length=a.length+1:=by rw [hP];simp [ho]
  have hPd:Dig 18446744073709551616 P:=by rw [hP];exact hdp.set _ ⟨by omega,by omega⟩
  have hPv:val 18446744073709551616 P=v*q:=by
   rw [← hv2];have:=Zyf (B:=18446744073709551616) (l:=p) (x:=(c:Int)) hlp;rw [← hP,← hPl,List.take_length] at this;rw [this];simp
  rw [← hP];have hcut:ZCa u=some (val 18446744073709551616 u):=rfl;have hcut2:ZCa P=some (v*q):=by unfold ZCa;rw [hPv]
  have hcmp:∀ n m,ZAc n m=some (ZHa n m):=fun _ _=>rfl;simp only [hcut,hcut2,hcmp,Za];by_cases hlt:val 18446744073709551616 u<v*q
  ·have:ZHa (val 18446744073709551616 u) (v*q) = -1:=by unfold ZHa;rw [if_pos hlt]
   rw [this,show decide ((-1:Int)<0)=true from rfl,Zj];rw [if_pos hlt] at hz;exact hz
  ·have:decide (ZHa (val 18446744073709551616 u) (v*q)<0)=false:=by
    unfold ZHa;rw [if_neg hlt];split <;> rfl
   rw [this,Zh,ZRa];rw [if_neg hlt] at hz;rw [← hz];have hle:v*q≤val 18446744073709551616 u:=by omega
   refine Zcb (fun s:(List Int)×Int×Int=>∃ k c:Nat,s.2.2=(k:Int)∧s.2.1=(c:Int)∧k≤u.length∧s.1.length=u.length∧Dig 18446744073709551616 s.1∧c≤1∧s.1.drop k=u.drop k ∧
    val 18446744073709551616 (s.1.take k)+val 18446744073709551616 (P.take k)=val 18446744073709551616 (u.take k)+18446744073709551616^k*c) (fun s=>u.length-s.2.2.toNat)
    (fun r:List Int=>r.length=u.length∧Dig 18446744073709551616 r∧val 18446744073709551616 r=val 18446744073709551616 u-v*q)
    ⟨0,0,rfl,rfl,by omega,rfl,hd,by omega,rfl,by simp [val]⟩ (ZBa (by simp;omega)) ?_ ?_
   ·rintro ⟨o,b,i⟩ ⟨k,b,rfl,rfl,hk,ho2,hdo,hb,hdr,hv3⟩;simp only at ho2 hdo hdr hv3 ⊢;by_cases hlt2:k<u.length
    ·left;have hko:k<o.length:=by omega
     have hkP:k<P.length:=by omega
     have hou:o[k]=u[k]:=by
      rw [List.drop_eq_getElem_cons hko,List.drop_eq_getElem_cons hlt2] at hdr;exact (List.cons.inj hdr).1
     obtain ⟨X,hX⟩:=Int.eq_ofNat_of_zero_le (hd.get hlt2).1;obtain ⟨Y,hY⟩:=Int.eq_ofNat_of_zero_le (hPd.get hkP).1;have hX2:=(hd.get hlt2).2;have hY2:=(hPd.get hkP).2;have c2:decide ((k:Int)<(u.length:Int))=true:=decide_eq_true (by omega);have c3:chk .i64 ((k:Int)+1)=some ((k+1:Nat):Int):=by rw [show (k:Int)+1=((k+1:Nat):Int) by omega,Zub (by omega)]
     have c5:=Zym (x:=(X:Int)) (y:=(Y:Int)) (c:=(b:Int)) (by omega) (by omega) (by omega) (by omega);simp only [c2,Zj,ZT hko,hou,hX,Za,ZT hkP,hY,c5,c3];obtain ⟨b',hb'⟩:∃ b':Nat,(if (X:Int)<(Y:Int)+(b:Int) then (1:Int) else 0)=(b':Int):=by
      by_cases hxy:(X:Int)<(Y:Int)+(b:Int)
      ·exact ⟨1,if_pos hxy⟩
      ·exact ⟨0,if_neg hxy⟩
     rw [hb'];have hbb:b'≤1∧((X:Int)-Y-b)%18446744073709551616+Y+b=X+18446744073709551616*b':=by
      split at hb' <;> omega
     refine ⟨_,rfl,⟨k+1,b',rfl,rfl,by omega,by simp [ho2],hdo.set _ ⟨by omega,by omega⟩,hbb.1,?_,?_⟩,by simp;omega⟩
     ·simp only [Int.toNat_natCast];rw [List.drop_set_of_lt (by omega)];rw [List.drop_eq_getElem_cons hko,List.drop_eq_getElem_cons hlt2] at hdr;exact (List.cons.inj hdr).2
     ·simp only [Int.toNat_natCast];rw [Zyf hko,ZGb hlt2,ZGb hkP,hX,hY,Nat.pow_succ];exact ZZn hv3 (by simp only [Int.toNat_natCast];omega)
    ·right;have c2:decide ((k:Int)<(u.length:Int))=false:=decide_eq_false (by omega);simp only [c2,Zh];have hk':k=u.length:=by omega
     subst hk';have e1:P.take u.length=P:=by rw [hl,← hPl,List.take_length]
     rw [← ho2,List.take_length,ho2,e1,hPv,List.take_length] at hv3;refine ⟨_,rfl,ho2,hdo,?_⟩;have h1:=Zdd hdo;rw [ho2] at h1;have h2:b=0∨b=1:=by omega
     rcases h2 with rfl | rfl
     ·omega
     ·rw [Nat.mul_one] at hv3;omega
   ·rintro r ⟨h1,h2,h3⟩;rw [Za,← h3,← h1,Zep h2]
theorem Zcr {u:List Int} {v:Nat} {q:Int} {z:Bool×List Int} (hd:Dig 18446744073709551616 u) (hq:inR .u64 q) (h:ZYf u v q=some z):ZAg u v q=some z:=by
 unfold ZYf at h;split at h
 ·rename_i hh;have:=ZTc.1 hq;obtain ⟨Q,rfl⟩:=Int.eq_ofNat_of_zero_le (show 0≤q by omega);rw [take_eq hd hh.1 hh.2 (by omega),← h];simp
 ·cases h
noncomputable def Zjh (u:(List Int)) (v:Nat):Option (Int×(List Int)) :=
 bnd (idx u ((((Zd 18446744073709551616 v)).length:Int))) fun h =>
 bnd (chk .i64 (((((Zd 18446744073709551616 v)).length:Int))-(1:Int))) fun i =>
 bnd (idx ((Zd 18446744073709551616 v)) i) fun j =>
 bnd (ifb (decide (h<j))
 (bnd (idx u ((((Zd 18446744073709551616 v)).length:Int))) fun k =>
 bnd (chk .i64 (((((Zd 18446744073709551616 v)).length:Int))-(1:Int))) fun l =>
 bnd (idx u l) fun m =>
 bnd (chk .i64 (((((Zd 18446744073709551616 v)).length:Int))-(1:Int))) fun n =>
 bnd (idx ((Zd 18446744073709551616 v)) n) fun o =>
 bnd (Z7c k m o) fun f =>
 bnd (bnd (Zo (fun s:Int×Int=>match s with
 | (a,b) =>
 (bnd (chk .i64 (((((Zd 18446744073709551616 v)).length:Int))-(2:Int))) fun q =>
 bnd (idx ((Zd 18446744073709551616 v)) q) fun r =>
 bnd (Z5b a r) fun c =>
 bnd (ifb (decide (c.1<b))
 (some true)
 (ifb (c.1==b)
 (bnd (chk .i64 (((((Zd 18446744073709551616 v)).length:Int))-(2:Int))) fun t =>
 bnd (idx u t) fun w =>
 some (decide (c.2≤w)))
 (some false)))
 (fun (x:Bool) =>
 (ifb (x)
 (some (.inr a))
 (bnd (chk .i64 (((((Zd 18446744073709551616 v)).length:Int))-(1:Int))) fun y =>
 bnd (idx ((Zd 18446744073709551616 v)) y) fun z =>
 bnd (Z5a b z (0:Int)) fun g =>
 ifb (decide ((0:Int)<g.2))
 (some (.inr (IntKind.u64.wrap (a-(1:Int)))))
 (some (.inl ((IntKind.u64.wrap (a-(1:Int)),g.1))))))))) Zt ((f.1,f.2)))
 (fun (A:Int) =>
 (some A)))
 (fun (B:Int) =>
 (some B)))
 (some (18446744073709551615:Int)))
 (fun (C:Int) =>
 (bnd (bnd (Zo (fun s:(List Int)×Int=>match s with
 | (D,d) =>
 (bnd (ZYf D v d) fun e =>
 ifb (!(e.1))
 (some (.inl ((e.2,IntKind.u64.wrap (d-(1:Int))))))
 (some (.inr ((e.2,d)))))) Zt ((u,C)))
 (fun (p:(List Int)×Int)=>match p with
 | (E,F) =>
 (some ((E,F)))))
 (fun (p:(List Int)×Int)=>match p with
 | (G,H) =>
 (some ((H,G))))))
theorem top2 {B:Nat} {a:List Int} {n:Nat} (hn:a.length=n+2):val B a=val B (a.take n)+B^n*((a[n]'(by omega)).toNat+B*(a[n+1]'(by omega)).toNat):=by
 rw [Zcd B a n (by omega),ZFc (by omega),ZFc (by omega),List.drop_of_length_le (by omega)];simp [val]
theorem top3 {B:Nat} {a:List Int} {n:Nat} (hn:a.length=n+3):val B a=val B (a.take n)+B^n*((a[n]'(by omega)).toNat+B*((a[n+1]'(by omega)).toNat+B*(a[n+2]'(by omega)).toNat)):=by
 rw [Zcd B a n (by omega),ZFc (by omega),ZFc (by omega),ZFc (by omega),List.drop_of_length_le (by omega)];simp [val]
theorem Zmt {Q v v1 v2 lowv lowu u2 h R U:Nat} (hR:0<R) (hv:v=lowv+R*(v2+18446744073709551616*v1)) (hU:U=lowu+R*(u2+18446744073709551616*h)) (hlow:lowu<R) (hu2:u2<18446744073709551616) (hQ:Q*v≤U):Q*v1≤h:=by
 have h1:R*(Q*(18446744073709551616*v1))≤Q*v:=by
  rw [hv];have:Q*(R*(18446744073709551616*v1))≤Q*(lowv+R*(v2+18446744073709551616*v1)):=by
   apply Nat.mul_le_mul_left;rw [Nat.mul_add R];omega
  rw [Nat.mul_left_comm];exact this
 have h2:R*(Q*(18446744073709551616*v1))<R*(u2+18446744073709551616*h+1):=by rw [Nat.mul_add R _ 1];omega
 have h3:=Nat.lt_of_mul_lt_mul_left h2;rw [Nat.mul_left_comm] at h3;generalize Q*v1=t at *;omega
theorem Zgs {g v v1 v2 lowv lowu u2 h r R U:Nat} (hR:0<R) (hv:v=lowv+R*(v2+18446744073709551616*v1)) (hU:U=lowu+R*(u2+18446744073709551616*h)) (hlow:lowu<R) (hh:h=g*v1+r) (hgt:r*18446744073709551616+u2<g*v2):U<g*v:=by
 rcases Nat.lt_or_ge U (g*v) with hlt | hge
 ·exact hlt
 ·exfalso;have h1:R*(g*(v2+18446744073709551616*v1))≤g*v:=by
   have e:g*v=g*lowv+R*(g*(v2+18446744073709551616*v1)):=by rw [hv,Nat.mul_add,Nat.mul_left_comm g R]
   omega
  have h2:R*(g*(v2+18446744073709551616*v1))<R*(u2+18446744073709551616*h+1):=by rw [Nat.mul_add R _ 1];omega
  have h3:=Nat.lt_of_mul_lt_mul_left h2;rw [Nat.mul_add g,Nat.mul_left_comm] at h3;generalize g*v1=t at *;omega
theorem Zit {u:List Int} {v:Nat} (hd:Dig 18446744073709551616 u) (hv:okN v) (hl:u.length=(Zd 18446744073709551616 v).length+1) (h2:2≤(Zd 18446744073709551616 v).length) (hlt:val 18446744073709551616 u<v*18446744073709551616) {z:Int×List Int}
  (f:Int→Option (Int×List Int)) (hf:∀ g:Nat,val 18446744073709551616 u / v≤g→g<18446744073709551616→f (g:Int)=some z) :
  (bnd (idx u ((((Zd 18446744073709551616 v)).length:Int))) fun y14 =>
 bnd (chk .i64 (((((Zd 18446744073709551616 v)).length:Int))-((1:Int)))) fun y20 =>
 bnd (idx ((Zd 18446744073709551616 v)) y20) fun y22 =>
 bnd (ifb (decide (y14<y22))
 (bnd (idx u ((((Zd 18446744073709551616 v)).length:Int))) fun y121 =>
 bnd (chk .i64 (((((Zd 18446744073709551616 v)).length:Int))-((1:Int)))) fun y127 =>
 bnd (idx u y127) fun y129 =>
 bnd (chk .i64 (((((Zd 18446744073709551616 v)).length:Int))-((1:Int)))) fun y135 =>
 bnd (idx ((Zd 18446744073709551616 v)) y135) fun y137 =>
 bnd (Z7c y121 y129 y137) fun y143 =>
 bnd (bnd (Zo (fun s:Int×Int=>match s with
 | (x183,x185) =>
 (bnd (chk .i64 (((((Zd 18446744073709551616 v)).length:Int))-((2:Int)))) fun y201 =>
 bnd (idx ((Zd 18446744073709551616 v)) y201) fun y203 =>
 bnd (Z5b x183 y203) fun y209 =>
 bnd (ifb (decide (y209.1<x185))
 (some true)
 (ifb (y209.1==x185)
 (bnd (chk .i64 (((((Zd 18446744073709551616 v)).length:Int))-((2:Int)))) fun y270 =>
 bnd (idx u y270) fun y272 =>
 some (decide (y209.2≤y272)))
 (some false)))
 (fun (x236:Bool) =>
 (ifb (x236)
 (some (.inr x183))
 (bnd (chk .i64 (((((Zd 18446744073709551616 v)).length:Int))-((1:Int)))) fun y251 =>
 bnd (idx ((Zd 18446744073709551616 v)) y251) fun y253 =>
 bnd (Z5a x185 y253 ((0:Int))) fun y259 =>
 ifb (decide ((0:Int)<y259.2))
 (some (.inr (IntKind.u64.wrap (x183-((1:Int))))))
 (some (.inl ((IntKind.u64.wrap (x183-((1:Int))),y259.1))))))))) Zt ((y143.1,y143.2)))
 (fun (x189:Int) =>
 (some x189)))
 (fun (x174:Int) =>
 (some x174)))
 (some ((18446744073709551615:Int)))) f)=some z:=by
 have hdx:=Zgb (B:=18446744073709551616) (by decide) v;have hvx:=Zbb (B:=18446744073709551616) (by decide) v;have hcx:=Zwj (B:=18446744073709551616) (by decide) v;unfold okN at hv;generalize Zd 18446744073709551616 v=a at *;obtain ⟨n,hn⟩:∃ n,a.length=n+2:=⟨a.length-2,by omega⟩;have hu:u.length=n+3:=by omega
 obtain ⟨v1,hv1⟩:=Int.eq_ofNat_of_zero_le (hdx.get (i:=n+1) (by omega)).1;obtain ⟨v2,hv2⟩:=Int.eq_ofNat_of_zero_le (hdx.get (i:=n) (by omega)).1;obtain ⟨u0,hu0⟩:=Int.eq_ofNat_of_zero_le (hd.get (i:=n+2) (by omega)).1;obtain ⟨u1,hu1⟩:=Int.eq_ofNat_of_zero_le (hd.get (i:=n+1) (by omega)).1;obtain ⟨u2,hu2⟩:=Int.eq_ofNat_of_zero_le (hd.get (i:=n) (by omega)).1;have b1:=(hdx.get (i:=n+1) (by omega)).2;have b2:=(hdx.get (i:=n) (by omega)).2;have b3:=(hd.get (i:=n+2) (by omega)).2;have b4:=(hd.get (i:=n+1) (by omega)).2;have b5:=(hd.get (i:=n) (by omega)).2;rw [hv1] at b1;rw [hv2] at b2;rw [hu0] at b3;rw [hu1] at b4;rw [hu2] at b5;have hv10:v1≠0:=by
  have e:a.length-1=n+1:=by omega
  have:=hcx a[n+1] (by rw [List.getLast?_eq_getElem?];simp only [e];exact List.getElem?_eq_getElem _);rw [hv1] at this;omega
 have tv:=top2 (B:=18446744073709551616) hn;have tu:=top3 (B:=18446744073709551616) hu;rw [hvx,hv1,hv2] at tv;rw [hu0,hu1,hu2] at tu;simp only [Int.toNat_natCast] at tv tu;have hR:0<18446744073709551616^n:=Nat.pow_pos (by omega);have hlow:=Zdd (hd.take n);rw [List.length_take,Nat.min_eq_left (by omega)] at hlow;have hv0:0<v:=by
  rcases Nat.eq_zero_or_pos v with h | h
  ·subst h;omega
  ·exact h
 obtain ⟨U,hU⟩:∃ U,U=val 18446744073709551616 u:=⟨_,rfl⟩;rw [← hU] at hf hlt tu;have hQv:U / v*v≤U:=Nat.div_mul_le_self _ _;have hQB:U / v<18446744073709551616:=by rw [Nat.div_lt_iff_lt_mul hv0,Nat.mul_comm];exact hlt
 have hQlt:∀ g,U<g*v→U / v<g:=fun g h=>(Nat.div_lt_iff_lt_mul hv0).2 h;generalize U / v=Q at *;have tu':U=val 18446744073709551616 (u.take n)+18446744073709551616^n*(u2+18446744073709551616*(u0*18446744073709551616+u1)):=by
  rw [tu];congr 2;omega
 have c0:chk .i64 ((a.length:Int)-1)=some ((n+1:Nat):Int):=by rw [Zu (by omega) (by omega)];congr 1;omega
 have c00:chk .i64 ((a.length:Int)-2)=some ((n:Nat):Int):=by rw [Zu (by omega) (by omega)];congr 1;omega
 have i0:idx u (a.length:Int)=some (u0:Int):=by rw [hn,ZT (by omega),hu0]
 have i1:idx u ((n+1:Nat):Int)=some (u1:Int):=by rw [ZT (by omega),hu1]
 have i2:idx u ((n:Nat):Int)=some (u2:Int):=by rw [ZT (by omega),hu2]
 have i3:idx a ((n+1:Nat):Int)=some (v1:Int):=by rw [ZT (by omega),hv1]
 have i4:idx a ((n:Nat):Int)=some (v2:Int):=by rw [ZT (by omega),hv2]
 simp only [i0,Za,c0,i3,i1,c00,i4,i2];by_cases hc:u0<v1
 ·have e1:decide ((u0:Int)<(v1:Int))=true:=decide_eq_true (by omega);have e2:Z7c (u0:Int) (u1:Int) (v1:Int)=some ((((u0*18446744073709551616+u1) / v1:Nat):Int),(((u0*18446744073709551616+u1)%v1:Nat):Int)):=by
   unfold Z7c;rw [if_pos ⟨by omega,by omega,by omega,by omega,by omega⟩];simp
  simp only [e1,Zj,e2,Za];obtain ⟨h,hh⟩:∃ h,h=u0*18446744073709551616+u1:=⟨_,rfl⟩;rw [← hh] at tu' ⊢;have hv1p:0<v1:=by omega
  have hg0:h / v1<18446744073709551616:=by
   rw [Nat.div_lt_iff_lt_mul hv1p,hh];have:(u0+1)*18446744073709551616≤v1*18446744073709551616:=Nat.mul_le_mul_right _ hc;rw [Nat.mul_comm 18446744073709551616];omega
  rw [ZRa,ZRa];refine Zcb (fun s:Int×Int=>∃ g r:Nat,s=((g:Int),(r:Int))∧h=g*v1+r∧r<18446744073709551616∧Q≤g∧g<18446744073709551616) (fun s=>s.1.toNat)
   (fun r:Int=>∃ g:Nat,r=(g:Int)∧Q≤g∧g<18446744073709551616)
   ⟨h / v1,h%v1,rfl,by rw [Nat.mul_comm];exact (Nat.div_add_mod _ _).symm,Nat.lt_trans (Nat.mod_lt _ hv1p) (by omega),(Nat.le_div_iff_mul_le hv1p).2 (Zmt hR tv tu' hlow (by omega) hQv),hg0⟩
   (ZBa (by simp only [Int.toNat_natCast];omega)) ?_ ?_
  ·rintro _ ⟨g,r,rfl,e,hr,hQ,hg⟩;have m1:=Ztl (x:=g) (y:=v2) hg (by omega);simp only [m1,Za];have cond:ifb (decide (((g*v2 / 18446744073709551616:Nat):Int)<(r:Int))) (some true) (ifb (((g*v2 / 18446744073709551616:Nat):Int)==(r:Int)) (some (decide (((g*v2%18446744073709551616:Nat):Int)≤(u2:Int)))) (some false))=some (decide (g*v2≤r*18446744073709551616+u2)):=by
    generalize g*v2=t;by_cases q1:t / 18446744073709551616<r
    ·rw [decide_eq_true (by omega),Zj,decide_eq_true (by omega)]
    ·rw [decide_eq_false (by omega),Zh];by_cases q2:t / 18446744073709551616=r
     ·have:(((t / 18446744073709551616:Nat):Int)==(r:Int))=true:=by simp;omega
      rw [this,Zj];exact congrArg some (decide_eq_decide.2 (by omega))
     ·have:(((t / 18446744073709551616:Nat):Int)==(r:Int))=false:=by simp;omega
      rw [this,Zh,decide_eq_false (by omega)]
   rw [cond,Za];by_cases hcd:g*v2≤r*18446744073709551616+u2
   ·right;rw [decide_eq_true hcd,Zj];exact ⟨_,rfl,g,rfl,hQ,hg⟩
   ·rw [decide_eq_false hcd,Zh];have hdown:=Zgs hR tv tu' hlow e (by omega);have hQg:Q<g:=hQlt g hdown;have a1:=ZFh (x:=(r:Int)) (y:=(v1:Int)) (c:=0) (by omega) (by omega) (by omega) (by omega);simp only [a1,Za];have ew:IntKind.u64.wrap ((g:Int)-1)=((g-1:Nat):Int):=by rw [wrap_u64];omega
    rw [ew];by_cases ho:18446744073709551616≤r+v1
    ·right;rw [decide_eq_true (by omega),Zj];exact ⟨_,rfl,g-1,rfl,by omega,by omega⟩
    ·left;rw [decide_eq_false (by omega),Zh];have er:((r:Int)+v1+0)%18446744073709551616=((r+v1:Nat):Int):=by omega
     rw [er];refine ⟨_,rfl,⟨g-1,r+v1,rfl,?_,by omega,by omega,by omega⟩,by simp;omega⟩;obtain ⟨g',rfl⟩:∃ g',g=g'+1:=⟨g-1,by omega⟩;rw [e,Nat.succ_mul];simp;omega
  ·rintro _ ⟨g,rfl,h1,h2⟩;simp only [Za];exact hf g h1 h2
 ·have e1:decide ((u0:Int)<(v1:Int))=false:=decide_eq_false (by omega);simp only [e1,Zh,Za];exact hf 18446744073709551615 (by omega) (by omega)
theorem ZLp {u:List Int} {v:Nat} (hd:Dig 18446744073709551616 u) (hv:okN v) (hl:u.length=(Zd 18446744073709551616 v).length+1) (h2:2≤(Zd 18446744073709551616 v).length) (hlt:val 18446744073709551616 u<v*18446744073709551616) :
  Zjh u v=some (((val 18446744073709551616 u / v:Nat):Int),Z7a u.length (val 18446744073709551616 u%v)):=by
 unfold Zjh;refine Zit hd hv hl h2 hlt _ fun g hg hg2=>?_;have hv0:0<v:=by
  rcases Nat.eq_zero_or_pos v with h | h
  ·subst h;omega
  ·exact h
 obtain ⟨U,hU⟩:∃ U,U=val 18446744073709551616 u:=⟨_,rfl⟩;rw [← hU] at hg ⊢;have hdm:=Nat.div_add_mod U v;have hQ1:∀ g,v*g≤U→g≤U / v:=fun g h=>(Nat.le_div_iff_mul_le hv0).2 (by rw [Nat.mul_comm];exact h);have hQ2:∀ g,U<v*g→U / v<g:=fun g h=>(Nat.div_lt_iff_lt_mul hv0).2 (by rw [Nat.mul_comm];exact h);generalize U / v=Q at *;generalize U%v=M at *;rw [ZRa];refine Zcb (fun s:(List Int)×Int=>∃ g:Nat,s=(u,(g:Int))∧Q≤g∧g<18446744073709551616) (fun s=>s.2.toNat) (fun r:(List Int)×Int=>r=(Z7a u.length (M),((Q:Nat):Int)))
  ⟨g,rfl,hg,hg2⟩ (ZBa (by simp only [Int.toNat_natCast];omega)) ?_ ?_
 ·rintro _ ⟨g,rfl,hg,hg2⟩;have ht:ZYf u v (g:Int)=if U<v*g then some (false,u) else some (true,Z7a u.length (U-v*g)):=by
   unfold ZYf;rw [if_pos ⟨hv,hl⟩,← hU];simp
  by_cases hc:U<v*g
  ·left;rw [if_pos hc] at ht;have hQg:Q<g:=hQ2 g hc;have ew:IntKind.u64.wrap ((g:Int)-1)=((g-1:Nat):Int):=by rw [wrap_u64];omega
   simp only [ht,Za,Bool.not_false,Zj,ew];exact ⟨_,rfl,⟨g-1,rfl,by omega,by omega⟩,by simp;omega⟩
  ·right;rw [if_neg hc] at ht;have hQg:g≤Q:=hQ1 g (by omega);have e:g=Q:=by omega
   simp only [ht,Za,Bool.not_true,Zh];refine ⟨_,rfl,?_⟩;subst e;congr 2;omega
 ·rintro _ rfl;simp only [Za]
theorem Zbs {u:List Int} {v:Nat} {z:Int×List Int} (hd:Dig 18446744073709551616 u) (h:ZBf u v=some z):Zjh u v=some z:=by
 unfold ZBf at h;split at h
 ·rename_i hh;rw [ZLp hd hh.1 hh.2.1 hh.2.2.1 hh.2.2.2,← h]
 ·cases h
noncomputable def ZTg (a:Nat) (b:Nat):Option (Nat×Nat) :=
 bnd (ZAc a b) fun m =>
 ifb (decide (m<(0:Int)))
 (some (((0:Nat),a)))
 (ifb (((((Zd 18446744073709551616 b)).length:Int))==(1:Int))
 (bnd (idx ((Zd 18446744073709551616 b)) (0:Int)) fun n =>
 bnd (ZDd a n) fun j =>
 bnd (Z1b j.2) fun o =>
 some ((j.1,o)))
 (bnd (chk .i64 (((((Zd 18446744073709551616 b)).length:Int))-(1:Int))) fun q =>
 bnd (idx ((Zd 18446744073709551616 b)) q) fun r =>
 bnd (Zud r) fun g =>
 bnd (ZJd b g) fun h =>
 bnd (ZJd a g) fun d =>
 bnd (Z2 8 (([]:(List Int))++((Zd 18446744073709551616 d)))) fun E =>
 bnd (Z2 8 ((([]:(List Int))++((Zd 18446744073709551616 d)))++[(0:Int)])) fun F =>
 bnd (chk .i64 ((((((([]:(List Int))++((Zd 18446744073709551616 d)))++[(0:Int)])).length:Int))-((((Zd 18446744073709551616 h)).length:Int)))) fun e =>
 bnd (mk 8 e e) fun G =>
 bnd (chk .i64 (((((List.replicate (e).toNat (0:Int))).length:Int))-(1:Int))) fun t =>
 bnd (bnd (Zo (fun s:(List Int)×(List Int)×Int=>match s with
 | (f,i,c) =>
 (ifb (decide ((0:Int)≤c))
 (bnd (chk .i64 (c+((((Zd 18446744073709551616 h)).length:Int)))) fun u =>
 bnd (chk .i64 (u+(1:Int))) fun k =>
 bnd (cutP f c k) fun v =>
 bnd (ZBf v h) fun l =>
 bnd (idx i c) fun H =>
 bnd (chk .i64 (c-(1:Int))) fun w =>
 some (.inl (((List.take (c).toNat f++l.2++List.drop (k).toNat f),(i.set (c).toNat l.1),w))))
 (some (.inr ((f,i)))))) Zt ((((([]:(List Int))++((Zd 18446744073709551616 d)))++[(0:Int)]),(List.replicate (e).toNat (0:Int)),t)))
 (fun (p:(List Int)×(List Int))=>match p with
 | (x,y) =>
 (some ((x,y)))))
 (fun (p:(List Int)×(List Int))=>match p with
 | (z,A) =>
 (bnd (ZCa A) fun B =>
 bnd (ZCa z) fun C =>
 bnd (Zcg C g) fun D =>
 some ((B,D))))))
theorem ZIj {x:Int} {n:Nat} (h:x=(n:Int)) (hn:n≤9223372036854775807):chk .i64 x=some (n:Int):=by rw [h];exact Zub hn
theorem ZZr {A V U U' q Qd P B seg low:Nat} (h:U+V*(P*B*q)=A) (e1:U=low+P*seg) (e2:U'=low+P*(seg%V)) (e3:Qd=seg / V):U'+V*(P*(Qd+B*q))=A:=by
 have hd:=Nat.div_add_mod seg V;rw [← e3] at hd;have h2:P*seg=P*(V*Qd+seg%V):=by rw [hd]
 subst e1 e2;rw [h2] at h;grind
theorem Zus {n m:Nat} (hn:okN n) (hm:okN m) (h0:m≠0):ZTg n m=some (n / m,n%m):=by
 unfold ZTg;have hcmp:∀ n m,ZAc n m=some (ZHa n m):=fun _ _=>rfl;rw [hcmp,Za];by_cases hlt:n<m
 ·have:ZHa n m = -1:=by unfold ZHa;rw [if_pos hlt]
  rw [this,show decide ((-1:Int)<0)=true from rfl,Zj,Nat.div_eq_of_lt hlt,Nat.mod_eq_of_lt hlt]
 have hc:decide (ZHa n m<0)=false:=by unfold ZHa;rw [if_neg hlt];split <;> rfl
 rw [hc,Zh];have hne:(Zd 18446744073709551616 m)≠[]:=(Z7d (by decide)).2 h0;have hpos:=List.length_pos_iff.2 hne;by_cases h1:(Zd 18446744073709551616 m).length=1
 ·have e1:(((Zd 18446744073709551616 m).length:Int)==1)=true:=by simp;omega
  rw [e1,Zj];have hmB:m<18446744073709551616:=by have:=ZPe (B:=18446744073709551616) (by decide) m;rw [h1] at this;simpa using this
  rw [ZDm (by decide) h0 hmB,Za];have:ZDd n (m:Int)=some (n / m,((n%m:Nat):Int)):=by unfold ZDd;rw [if_pos ⟨hn,by omega⟩];simp
  rw [this,Za];show bnd (Z1b ((n%m:Nat):Int)) _=_;unfold Z1b;rw [Za];rfl
 have e1:(((Zd 18446744073709551616 m).length:Int)==1)=false:=by simp;omega
 rw [e1,Zh];obtain ⟨k,hk⟩:∃ k,(Zd 18446744073709551616 m).length=k+2:=⟨(Zd 18446744073709551616 m).length-2,by omega⟩;have c1:chk .i64 (((Zd 18446744073709551616 m).length:Int)-1)=some ((k+1:Nat):Int):=by
  unfold okN at hm;rw [Zu (by omega) (by omega)];congr 1;omega
 rw [c1,Za];have hdm:=Zgb (B:=18446744073709551616) (by decide) m;have hvm:=Zbb (B:=18446744073709551616) (by decide) m;have hcm:=Zwj (B:=18446744073709551616) (by decide) m;have hmlt:=ZPe (B:=18446744073709551616) (by decide) m;have hmge:=Zxk (B:=18446744073709551616) (by decide) h0;rw [hk] at hmlt hmge;obtain ⟨top,htop⟩:=Int.eq_ofNat_of_zero_le (hdm.get (i:=k+1) (by omega)).1;have htopB:=(hdm.get (i:=k+1) (by omega)).2;rw [htop] at htopB;have hi:idx (Zd 18446744073709551616 m) ((k+1:Nat):Int)=some (top:Int):=by rw [ZT (by omega),htop]
 rw [hi,Za];have htop0:top≠0:=by
  have e:(Zd 18446744073709551616 m).length-1=k+1:=by omega
  have:=hcm (Zd 18446744073709551616 m)[k+1] (by rw [List.getLast?_eq_getElem?];simp only [e];exact List.getElem?_eq_getElem _);rw [htop] at this;omega
 obtain ⟨t,ht⟩:=ZPf htop0;have hbl:bl top≤64:=Zkc (by omega);have htl:=Zhd top;have hz:Zud (top:Int)=some ((64-bl top:Nat):Int):=by
  unfold Zud;rw [if_pos ⟨by omega,by omega⟩];congr 1;simp;omega
 rw [hz,Za];obtain ⟨s,hs⟩:∃ s,s=64-bl top:=⟨_,rfl⟩;rw [← hs];have hp:0<2^s:=Nat.pow_pos (by omega);have hVlt:m*2^s<18446744073709551616^(k+2):=by
  have h3:=top2 (B:=18446744073709551616) (a:=Zd 18446744073709551616 m) (n:=k) hk;rw [hvm,htop] at h3;simp only [Int.toNat_natCast] at h3;have h4:=Zdd (hdm.take (k+1));rw [List.length_take,Nat.min_eq_left (by omega)] at h4;have h5:=Zcd 18446744073709551616 (Zd 18446744073709551616 m) (k+1) (by omega);rw [hvm,ZFc (by omega),htop,List.drop_of_length_le (by omega)] at h5;simp only [val,Int.toNat_natCast,Nat.mul_zero,Nat.add_zero] at h5;have h6:m<18446744073709551616^(k+1)*(top+1):=by rw [Nat.mul_add];omega
  have h7:(top+1)*2^s≤18446744073709551616:=by
   have:=Nat.mul_le_mul_right (2^s) (show top+1≤2^bl top from htl);rw [← Nat.pow_add,show bl top+s=64 by omega] at this;exact this
  have h8:m*2^s<18446744073709551616^(k+1)*(top+1)*2^s:=Nat.mul_lt_mul_of_pos_right h6 hp;have h9:18446744073709551616^(k+1)*((top+1)*2^s)≤18446744073709551616^(k+1)*18446744073709551616:=Nat.mul_le_mul_left _ h7;rw [Nat.pow_succ _ (k+1)];rw [Nat.mul_assoc] at h8;omega
 obtain ⟨V,hV⟩:∃ V,V=m*2^s:=⟨_,rfl⟩;rw [← hV] at hVlt;have hmV:m≤V:=by rw [hV];exact Nat.le_mul_of_pos_right _ hp
 have hVl:(Zd 18446744073709551616 V).length=k+2:=by
  have h3:=ZBi (B:=18446744073709551616) (by decide) hVlt;have h4:=Zbh (B:=18446744073709551616) (by decide) hmV;omega
 have hVok:okN V:=by unfold okN at hm ⊢;omega
 have hV0:0<V:=by omega
 obtain ⟨A,hA⟩:∃ A,A=n*2^s:=⟨_,rfl⟩;have hAlt:A<18446744073709551616^((Zd 18446744073709551616 n).length+1):=by
  have h3:=ZPe (B:=18446744073709551616) (by decide) n;have h4:2^s≤2^64:=Nat.pow_le_pow_right (by omega) (by omega);rw [hA,Nat.pow_succ];exact Nat.lt_of_le_of_lt (Nat.mul_le_mul_left _ h4) (Nat.mul_lt_mul_of_pos_right h3 (by decide))
 have hAl:=ZBi (B:=18446744073709551616) (by decide) hAlt;have hVA:V≤A:=by rw [hV,hA];exact Nat.mul_le_mul_right _ (by omega)
 have hAV:=Zbh (B:=18446744073709551616) (by decide) hVA;have l1:ZJd m (s:Int)=some V:=by unfold ZJd;rw [if_pos ⟨hm,by omega,by omega⟩,hV];simp
 have l2:ZJd n (s:Int)=some A:=by unfold ZJd;rw [if_pos ⟨hn,by omega,by omega⟩,hA];simp
 unfold okN at hn hm;rw [l1,Za,l2,Za];have hdA:=Zgb (B:=18446744073709551616) (by decide) A;have hvA:=Zbb (B:=18446744073709551616) (by decide) A;rw [hVl] at hAV ⊢;generalize Zd 18446744073709551616 A=w at *;have r1:Z2 8 (([]:List Int)++w)=some ():=by unfold Z2;rw [if_pos (by simp;omega)]
 have r2:Z2 8 ((([]:List Int)++w)++[(0:Int)])=some ():=by unfold Z2;rw [if_pos (by simp;omega)]
 rw [r1,Za,r2,Za,List.nil_append];obtain ⟨u,hu⟩:∃ u,u=w++[(0:Int)]:=⟨_,rfl⟩;have hul:u.length=w.length+1:=by rw [hu];simp
 have hud:Dig 18446744073709551616 u:=by rw [hu];exact Dig.append.2 ⟨hdA,Dig.cons.2 ⟨by omega,Dig.nil⟩⟩
 have huv:val 18446744073709551616 u=A:=by rw [hu,ZVc,hvA];simp [val]
 rw [← hu];obtain ⟨j0,hj0⟩:∃ j0,w.length+1=k+2+j0+1:=⟨w.length-(k+2),by omega⟩;have c2:chk .i64 ((u.length:Int)-((k+2:Nat):Int))=some ((j0+1:Nat):Int):=ZIj (by omega) (by omega);obtain ⟨x,hx⟩:=Z5d (b:=8) (l:=((j0+1:Nat):Int)) (c:=((j0+1:Nat):Int)) (by omega) (by omega) (by omega) (by omega);have c3:chk .i64 ((((List.replicate (j0+1) (0:Int)).length:Nat):Int)-1)=some ((j0:Nat):Int):=by
  rw [List.length_replicate];exact ZIj (by omega) (by omega)
 rw [c2,Za,hx,Za,Int.toNat_natCast,c3,Za,ZRa];refine Zcb (fun st:(List Int)×(List Int)×Int=>∃ j:Nat,st.2.2=(j:Int)-1∧j≤j0+1∧st.1.length=u.length∧Dig 18446744073709551616 st.1∧st.2.1.length=j0+1 ∧
  val 18446744073709551616 (st.1.drop j)<V∧val 18446744073709551616 st.1+V*(18446744073709551616^j*val 18446744073709551616 (st.2.1.drop j))=A) (fun st=>(st.2.2+1).toNat)
  (fun r:(List Int)×(List Int)=>Dig 18446744073709551616 r.1∧val 18446744073709551616 r.1<V∧val 18446744073709551616 r.1+V*val 18446744073709551616 r.2=A)
  ⟨j0+1,by simp,by omega,rfl,hud,by simp,?_,by simp [val,huv]⟩ (ZBa (by simp;omega)) ?_ ?_
 · -- the greatest words are below the divisor
  have h3:=Zcd 18446744073709551616 u (j0+1) (by omega);have h4:u.drop (j0+1)=w.drop (j0+1)++[0]:=by rw [hu,List.drop_append_of_le_length (by omega)]
  have h5:=Zdd (hdA.drop (j0+1));rw [List.length_drop,show w.length-(j0+1)=k+1 by omega] at h5;rw [h4,ZVc];simp [val];have:18446744073709551616^(k+2-1)=18446744073709551616^(k+1):=rfl;omega
 ·rintro ⟨o,q,i⟩ ⟨j,e,hj,hol,hod,hql,hltV,hinv⟩;simp only at e hol hod hql hltV hinv ⊢;subst e;by_cases hj0':0<j
  ·left;obtain ⟨i,rfl⟩:∃ i,j=i+1:=⟨j-1,by omega⟩;have ei:((i+1:Nat):Int)-1=(i:Int):=by omega
   rw [ei,decide_eq_true (by omega),Zj];have d1:chk .i64 ((i:Int)+((k+2:Nat):Int))=some ((i+k+2:Nat):Int):=ZIj (by omega) (by omega);have d2:chk .i64 (((i+k+2:Nat):Int)+1)=some ((i+k+3:Nat):Int):=ZIj (by omega) (by omega);obtain ⟨seg,hseg⟩:∃ seg,seg=(o.take (i+k+3)).drop i:=⟨_,rfl⟩;have hsl:seg.length=k+3:=by rw [hseg,List.length_drop,List.length_take,Nat.min_eq_left (by omega)];omega
   have d3:cutP o (i:Int) ((i+k+3:Nat):Int)=some seg:=by
    unfold cutP;rw [if_pos ⟨by omega,by omega,by omega⟩,hseg];rfl
   have hsd:Dig 18446744073709551616 seg:=by rw [hseg];exact (hod.take _).drop _
   have hdropi:val 18446744073709551616 (o.drop i)<V*18446744073709551616:=by
    rw [ZFc (by omega)];have:=(hod.get (i:=i) (by omega)).2;have h3:18446744073709551616*(val 18446744073709551616 (o.drop (i+1))+1)≤18446744073709551616*V:=Nat.mul_le_mul_left _ hltV;rw [Nat.mul_add] at h3;rw [Nat.mul_comm V];omega
   have hsplit:o.drop i=seg++o.drop (i+k+3):=by
    have h3:=List.take_append_drop (i+k+3) o;have h4:o.drop i=((o.take (i+k+3))++o.drop (i+k+3)).drop i:=by rw [h3]
    rw [h4,List.drop_append_of_le_length (by rw [List.length_take];omega),hseg]
   have hhigh:val 18446744073709551616 (o.drop (i+k+3))=0:=by
    rcases Nat.eq_zero_or_pos (val 18446744073709551616 (o.drop (i+k+3))) with h | h
    ·exact h
    ·exfalso;rw [hsplit,ZVc,hsl] at hdropi;have h3:18446744073709551616^(k+3)*1≤18446744073709551616^(k+3)*val 18446744073709551616 (o.drop (i+k+3)):=Nat.mul_le_mul_left _ h;have h4:V*18446744073709551616≤18446744073709551616^(k+2)*18446744073709551616:=Nat.mul_le_mul_right _ (by omega);have h5:18446744073709551616^(k+3)=18446744073709551616^(k+2)*18446744073709551616:=Nat.pow_succ ..;generalize 18446744073709551616^(k+3)=g3 at *;generalize 18446744073709551616^(k+2)=g2 at *;omega
   have hsv:val 18446744073709551616 (o.drop i)=val 18446744073709551616 seg:=by rw [hsplit,ZVc,hhigh];simp
   have d4:ZBf seg V=some (((val 18446744073709551616 seg / V:Nat):Int),Z7a seg.length (val 18446744073709551616 seg%V)):=by
    unfold ZBf;rw [if_pos ⟨hVok,by omega,by omega,by omega⟩]
   have hiq:i<q.length:=by omega
   have d5:chk .i64 ((i:Int)-1)=some ((i:Int)-1):=Zu (by omega) (by omega);simp only [d1,Za,d2,d3,d4,ZT hiq,d5,Int.toNat_natCast];obtain ⟨r,hr⟩:∃ r,r=Z7a seg.length (val 18446744073709551616 seg%V):=⟨_,rfl⟩;have hrl:r.length=k+3:=by rw [hr,ZEm,hsl]
   have hrd:Dig 18446744073709551616 r:=by rw [hr];exact Zxm _ _
   have hmodlt:=Nat.mod_lt (val 18446744073709551616 seg) hV0;have hrv:val 18446744073709551616 r=val 18446744073709551616 seg%V:=by
    rw [hr,hsl];apply Z5m;have:18446744073709551616^(k+2)≤18446744073709551616^(k+3):=Nat.pow_le_pow_right (by omega) (by omega);omega
   rw [← hr];have htk:(o.take i).length=i:=by rw [List.length_take,Nat.min_eq_left (by omega)]
   have hnew:(o.take i++r++o.drop (i+k+3)).drop i=r++o.drop (i+k+3):=by
    rw [List.append_assoc,List.drop_append_of_le_length (by omega),List.drop_of_length_le (by omega),List.nil_append]
   have hnewv:val 18446744073709551616 ((o.take i++r++o.drop (i+k+3)).drop i)=val 18446744073709551616 seg%V:=by
    rw [hnew,ZVc,hhigh,hrv];simp
   refine ⟨_,rfl,⟨i,rfl,by omega,?_,?_,by simp [hql],by rw [hnewv];exact hmodlt,?_⟩,by simp⟩
   ·rw [List.length_append,List.length_append,htk,hrl,List.length_drop];omega
   ·exact Dig.append.2 ⟨Dig.append.2 ⟨hod.take _,hrd⟩,hod.drop _⟩
   ·rw [ZFc (by simp;omega),List.getElem_set_self,List.drop_set_of_lt (by omega)];simp only [Int.toNat_natCast];rw [Nat.pow_succ] at hinv;refine ZZr (seg:=val 18446744073709551616 seg) (low:=val 18446744073709551616 (o.take i)) hinv ?_ ?_ rfl
    ·rw [Zcd 18446744073709551616 o i (by omega),hsv]
    ·have h3:=Zcd 18446744073709551616 (o.take i++r++o.drop (i+k+3)) i (by rw [List.length_append,List.length_append,htk];omega);rw [hnewv] at h3;have h4:(o.take i++r++o.drop (i+k+3)).take i=o.take i:=by
      rw [List.append_assoc,List.take_append_of_le_length (by omega),List.take_of_length_le (by omega)]
     rw [h3,h4]
  ·right;have hjz:j=0:=by omega
   subst hjz;rw [decide_eq_false (by simp),Zh];simp only [List.drop_zero,Nat.pow_zero,Nat.one_mul] at hltV hinv;exact ⟨_,rfl,hod,hltV,hinv⟩
 ·rintro ⟨o,q⟩ ⟨hod,hltV,hinv⟩;simp only at hod hltV hinv;rw [Za];have f1:ZCa q=some (val 18446744073709551616 q):=rfl;have f2:ZCa o=some (val 18446744073709551616 o):=rfl;simp only [f1,f2,Za];have hrok:okN (val 18446744073709551616 o):=by
   have:=Zbh (B:=18446744073709551616) (by decide) (Nat.le_of_lt hltV);unfold okN;omega
  have f3:Zcg (val 18446744073709551616 o) (s:Int)=some (val 18446744073709551616 o / 2^s):=by
   unfold Zcg;rw [if_pos ⟨hrok,by omega⟩];simp
  rw [f3,Za];have g1:n / m=val 18446744073709551616 q:=by
   have h3:=Nat.mul_div_mul_right n m hp;rw [← hA,← hV,← hinv,Nat.add_comm,Nat.mul_add_div hV0,Nat.div_eq_of_lt hltV,Nat.add_zero] at h3;exact h3.symm
  have g2:n%m*2^s=val 18446744073709551616 o:=by
   have h3:=Nat.mul_mod_mul_right (2^s) n m;rw [← hA,← hV,← hinv,Nat.add_comm,Nat.mul_add_mod,Nat.mod_eq_of_lt hltV] at h3;exact h3.symm
  rw [g1,← g2,Nat.mul_div_cancel _ hp]
theorem Zyt {n m:Nat} {z:Nat×Nat} (h:Z5c n m=some z):ZTg n m=some z:=by
 unfold Z5c at h;split at h
 ·rename_i hh;rw [Zus hh.1 hh.2.1 hh.2.2,← h]
 ·cases h
noncomputable def ZPi (a:Nat) (b:Nat):Option (Nat) :=
 bnd (bnd (Zo (fun s:Nat×Nat=>match s with
 | (d,c) =>
 (ifb (decide ((0:Int)<(((Zd 18446744073709551616 c)).length:Int)))
 (bnd (ifb (decide ((((Zd 18446744073709551616 d)).length:Int)≤(1:Int)))
 (some (decide ((((Zd 18446744073709551616 c)).length:Int)≤(1:Int))))
 (some false))
 (fun (e:Bool) =>
 (ifb (e)
 (bnd (ZEf d c) fun f =>
 bnd (Z1b f) fun g =>
 some (.inr ((.inl g))))
 (bnd (Z5c d c) fun h =>
 some (.inl ((c,h.2)))))))
 (some (.inr ((.inr d)))))) Zt ((a,b)))
 (fun (p:(Nat) ⊕ (Nat))=>match p with
 | .inl i =>
 (some ((.inr i)))
 | .inr j =>
 (some ((.inl j)))))
 (fun (p:(Nat) ⊕ (Nat))=>match p with
 | .inl k =>
 (some k)
 | .inr l =>
 (some l))
noncomputable def Zmk (s:Bool) (n:Nat):Option (Int) :=
 bnd (ifb (s)
 (some ((decide ((0:Int)<(((Zd 18446744073709551616 n)).length:Int)),n)))
 (some ((false,n))))
 (fun (a:(Bool×Nat)) =>
 (bnd (Z0c a.1 a.2) fun b =>
 some b))
theorem ZOf {n m:Nat} (h:n≤m):bl n≤bl m:=Zkc (Nat.lt_of_le_of_lt h (Zhd m))
theorem bl_half {a b:Nat} (h:b≤a) (h0:b≠0):bl (a%b)+1≤bl a:=by
 have ha:a≠0:=by omega
 obtain ⟨k,hk⟩:=ZPf ha;have h1:=(ZVf ha).1 hk;have h2:a%b<b:=Nat.mod_lt _ (by omega);have h3:a%b+b≤a:=by
  have h4:=Nat.div_add_mod a b;have h5:1≤a / b:=(Nat.le_div_iff_mul_le (by omega)).2 (by omega);have h6:b*1≤b*(a / b):=Nat.mul_le_mul_left _ h5;omega
 have h4:a%b<2^k:=by
  rw [Nat.pow_succ] at h1;omega
 have:=Zkc h4;omega
theorem Zvl {n m:Nat} (h:n≤m) (hm:okN m):okN n:=by
 have:=Zbh (B:=18446744073709551616) (by decide) h;unfold okN at *;omega
theorem ZRl {n:Nat} (h:okN n):bl n≤4398046511104:=by
 unfold okN at h;have h1:=ZPe (B:=18446744073709551616) (by decide) n;have h2:18446744073709551616^(Zd 18446744073709551616 n).length=2^(64*(Zd 18446744073709551616 n).length):=by rw [Nat.pow_mul]
 rw [h2] at h1;have:=Zkc h1;omega
theorem Zbo {n:Nat} (h:(Zd 18446744073709551616 n).length≤1):n<18446744073709551616:=by
 have h1:=ZPe (B:=18446744073709551616) (by decide) n;have h2:18446744073709551616^(Zd 18446744073709551616 n).length≤18446744073709551616^1:=Nat.pow_le_pow_right (by omega) h;rw [Nat.pow_one] at h2;omega
theorem gcd_eq {n m:Nat} (hn:okN n) (hm:okN m):ZPi n m=some (Nat.gcd n m):=by
 unfold ZPi;rw [ZRa];refine Zcb (fun s:Nat×Nat=>okN s.1∧okN s.2∧Nat.gcd s.1 s.2=Nat.gcd n m) (fun s=>2*(bl s.1+bl s.2)+if s.1<s.2 then 1 else 0) (fun r:Nat ⊕ Nat=>r = .inl (Nat.gcd n m)∨r = .inr (Nat.gcd n m)) ⟨hn,hm,rfl⟩
  (ZBa (by have:=ZRl hn;have:=ZRl hm;simp only;split <;> omega)) ?_ ?_
 ·rintro ⟨a,b⟩ ⟨ha,hb,hg⟩;simp only at ha hb hg ⊢;by_cases h0:b=0
  ·right;subst h0;rw [Zva];refine ⟨_,rfl,.inr ?_⟩;rw [← hg,Nat.gcd_zero_right]
  ·have hpos:=List.length_pos_iff.2 ((Z7d (n:=b) (B:=18446744073709551616) (by decide)).2 h0);rw [decide_eq_true (show (0:Int)<((Zd 18446744073709551616 b).length:Int) by omega),Zj];have cond:ifb (decide (((Zd 18446744073709551616 a).length:Int)≤1)) (some (decide (((Zd 18446744073709551616 b).length:Int)≤1))) (some false)=some (decide ((Zd 18446744073709551616 a).length≤1∧(Zd 18446744073709551616 b).length≤1)):=by
    by_cases q:(Zd 18446744073709551616 a).length≤1
    ·rw [decide_eq_true (by omega),Zj];exact congrArg some (decide_eq_decide.2 (by omega))
    ·rw [decide_eq_false (by omega),Zh,decide_eq_false (by omega)]
   rw [cond,Za];by_cases hc:(Zd 18446744073709551616 a).length≤1∧(Zd 18446744073709551616 b).length≤1
   ·right;rw [decide_eq_true hc,Zj];have h1:ZEf a b=some ((Nat.gcd a b:Nat):Int):=by unfold ZEf;rw [if_pos ⟨Zbo hc.1,Zbo hc.2,h0⟩]
    rw [h1,Za];have h2:Z1b ((Nat.gcd a b:Nat):Int)=some (Nat.gcd a b):=rfl;rw [h2,Za,hg];exact ⟨_,rfl,.inl rfl⟩
   ·left;rw [decide_eq_false hc,Zh];have h1:Z5c a b=some (a / b,a%b):=by unfold Z5c;rw [if_pos ⟨ha,hb,h0⟩]
    rw [h1,Za];have hlt:a%b<b:=Nat.mod_lt _ (by omega);refine ⟨_,rfl,⟨hb,Zvl (Nat.le_of_lt hlt) hb,?_⟩,?_⟩
    ·rw [← hg];simp only;rw [Nat.gcd_comm b,← Nat.gcd_rec,Nat.gcd_comm]
    ·simp only;rw [if_neg (by omega)];by_cases hab:a<b
     ·rw [if_pos hab,Nat.mod_eq_of_lt hab];omega
     ·have:=bl_half (a:=a) (b:=b) (by omega) h0;rw [if_neg hab];omega
 ·rintro r (rfl | rfl)
  ·rfl
  ·rfl
theorem gcdF_eq {n m z:Nat} (h:gcdF n m=some z):ZPi n m=some z:=by
 unfold gcdF at h;split at h
 ·rename_i hh;rw [gcd_eq hh.1 hh.2,← h]
 ·cases h
noncomputable def of_m (n:Int):Option (Int) :=
 ifb (decide (n<(0:Int)))
 (bnd (Z1b (IntKind.u64.wrap (-(IntKind.u64.wrap n)))) fun a =>
 bnd (Z0c true a) fun b =>
 some b)
 (bnd (Z1b (IntKind.u64.wrap n)) fun c =>
 bnd (Z0c false c) fun d =>
 some d)
noncomputable def Zlk (d:Nat):Option (Nat) :=
 ifb (((((Zd 18446744073709551616 d)).length:Int))==(0:Int))
 (bnd (Z1b (1:Int)) fun a =>
 some a)
 (some d)
theorem ZFn {n:Nat}:0<(Zd 18446744073709551616 n).length↔n≠0:=List.length_pos_iff.trans (Z7d (by decide))
theorem Zlp {n:Nat}:decide ((0:Int)<((Zd 18446744073709551616 n).length:Int))=decide (n≠0) :=
 decide_eq_decide.2 (Int.natCast_pos.trans ZFn)
theorem ZAo {n:Nat}:(((Zd 18446744073709551616 n).length:Int)==0)=decide (n=0):=by
 by_cases h:n=0
 ·subst h;rw [Zva];rfl
 ·rw [decide_eq_false h];have:=ZFn.2 h;exact beq_eq_false_iff_ne.2 (by omega)
theorem ZUe {s:Bool} {n:Nat} (h:s=true→n≠0):Z0c s n=some (if s then -(n:Int) else n):=by
 unfold Z0c;rw [if_neg (fun hh=>h hh.1 hh.2)]
theorem ZIt {s:Bool} {n:Nat} {z:Int} (h:Zob s n=some z):Zmk s n=some z:=by
 unfold Zob at h;unfold Zmk
 cases s
 ·rw [Zh,Za,ZUe (by simp),Za,← h]
 ·rw [Zj,Za,Zlp];by_cases h0:n=0
  ·subst h0;rw [ZUe (by simp),Za,← h];simp
  ·rw [decide_eq_true h0,ZUe (by simpa using h0),Za,← h]
theorem ofF_eq {n z:Int} (hn:inR .i64 n) (h:ofF n=some z):of_m n=some z:=by
 have hr:=ZZb.1 hn;unfold ofF at h
 cases h
 unfold of_m Z1b;rw [wrap_u64,wrap_u64];by_cases hc:n<0
 ·rw [decide_eq_true hc,Zj,Za,ZUe (by omega),Za];simp only [if_true];congr 1;omega
 ·rw [decide_eq_false hc,Zh,Za,ZUe (by simp),Za];have:((n%18446744073709551616).toNat:Int)=n:=by omega
  simp [this]
theorem Zer {d z:Nat} (h:Zrc d=some z):Zlk d=some z:=by
 unfold Zrc Zge at h;unfold Zlk;rw [ZAo];by_cases h0:d=0
 ·subst h0;rw [decide_eq_true rfl,Zj,← h];rfl
 ·rw [decide_eq_false h0,Zh,← h,if_neg h0]
noncomputable def Zkl (x:Int) (y:Int):Option (Int) :=
 ifb ((decide (x<0))==(decide (y<0)))
 (bnd (ZBh x.natAbs y.natAbs) fun a =>
 bnd (Zob (decide (x<0)) a) fun b =>
 some b)
 (bnd (ZAc x.natAbs y.natAbs) fun c =>
 ifb (decide ((0:Int)≤c))
 (bnd (ZUf x.natAbs y.natAbs) fun d =>
 bnd (Zob (decide (x<0)) d) fun e =>
 some e)
 (bnd (ZUf y.natAbs x.natAbs) fun f =>
 bnd (Zob (decide (y<0)) f) fun g =>
 some g))
noncomputable def Zjl (x:Int) (y:Int):Option (Int) :=
 bnd (ZOb x.natAbs y.natAbs) fun a =>
 bnd (Zob ((decide (x<0)) != (decide (y<0))) a) fun b =>
 some b
noncomputable def Ztk (x:Int) (n:Nat):Option (Int) :=
 bnd (ZOb x.natAbs n) fun a =>
 bnd (Zob (decide (x<0)) a) fun b =>
 some b
noncomputable def ZKk (x:Int):Option (Int) :=
 bnd (Zob (!(decide (x<0))) x.natAbs) fun a =>
 some a
noncomputable def ZQk (n:Int):Option (Rat) :=
 bnd (ofF n) fun a =>
 bnd (Zie a ((0:Nat))) fun b =>
 some b
noncomputable def ZKl (n:Int) (d:Nat):Option (Rat) :=
 bnd (gcdF n.natAbs d) fun a =>
 bnd (Z0e a) fun e =>
 bnd (ifb (!(e))
 (bnd (Z5c n.natAbs a) fun f =>
 bnd (Z5c d a) fun g =>
 some ((g.1,(decide (n<0),f.1))))
 (some ((d,(decide (n<0),n.natAbs)))))
 (fun (p:Nat×(Bool×Nat))=>match p with
 | (b,c) =>
 (bnd (Z0e b) fun h =>
 bnd (ifb (h)
 (some ((0:Nat)))
 (some b))
 (fun (i:Nat) =>
 (bnd (Z0c c.1 c.2) fun j =>
 bnd (Zie j i) fun k =>
 some k))))
noncomputable def ZCk (x:Rat):Option (Bool) :=
 some (((((Zd 18446744073709551616 ((x.num).natAbs))).length:Int))==(0:Int))
noncomputable def Zbk (x:Rat) (y:Rat):Option (Bool) :=
 bnd (ifb ((decide (x.num<0))==(decide (y.num<0)))
 (bnd (ZAc ((x.num).natAbs) ((y.num).natAbs)) fun a =>
 ifb (a==(0:Int))
 (bnd (ZAc ((Z6 x.den)) ((Z6 y.den))) fun b =>
 some (b==(0:Int)))
 (some false))
 (some false))
 (fun (c:Bool) =>
 (some c))
theorem ZVt {x y z:Int} (h:ZRg x y=some z):Zkl x y=some z:=by
 unfold ZRg at h;split at h
 ·rename_i hh;obtain ⟨hx,hy⟩:=hh
  cases h
  unfold Zkl Zob ZBh ZUf ZAc;by_cases hs:decide (x<0)=decide (y<0)
  ·rw [hs,show (decide (y<0)==decide (y<0))=true by simp,Zj,if_pos ⟨hx,hy⟩,Za,Za];by_cases h0:y<0
   ·rw [decide_eq_true h0] at hs ⊢;have hx0:=of_decide_eq_true hs;rw [if_pos rfl];congr 1;omega
   ·rw [decide_eq_false h0] at hs ⊢;have hx0:=of_decide_eq_false hs;rw [if_neg (by simp)];congr 1;omega
  ·have e:(decide (x<0)==decide (y<0))=false:=by simpa using hs
   rw [e,Zh,Za];have hxy:(x<0∧¬ y<0)∨(¬ x<0∧y<0):=by
    by_cases h1:x<0 <;> by_cases h2:y<0 <;> simp [h1,h2] at hs ⊢
   by_cases hc:y.natAbs≤x.natAbs
   ·have:decide (0≤ZHa x.natAbs y.natAbs)=true:=by
     unfold ZHa;rw [if_neg (by omega)];split <;> rfl
    rw [this,Zj,if_pos ⟨hx,hc⟩,Za,Za];rcases hxy with ⟨h1,h2⟩ | ⟨h1,h2⟩
    ·rw [decide_eq_true h1,if_pos rfl];congr 1;omega
    ·rw [decide_eq_false h1,if_neg (by simp)];congr 1;omega
   ·have:decide (0≤ZHa x.natAbs y.natAbs)=false:=by
     unfold ZHa;rw [if_pos (by omega)];rfl
    rw [this,Zh,if_pos ⟨hy,by omega⟩,Za,Za];rcases hxy with ⟨h1,h2⟩ | ⟨h1,h2⟩
    ·rw [decide_eq_false h2,if_neg (by simp)];congr 1;omega
    ·rw [decide_eq_true h2,if_pos rfl];congr 1;omega
 ·cases h
theorem Zao {x y:Int}:(if (decide (x<0) != decide (y<0))=true then -((x.natAbs*y.natAbs:Nat):Int) else ((x.natAbs*y.natAbs:Nat):Int))=x*y:=by
 rw [Int.natCast_mul];by_cases h1:x<0 <;> by_cases h2:y<0
 ·simp only [h1,h2,decide_true,bne_self_eq_false,Bool.false_eq_true,if_false];rw [Int.ofNat_natAbs_of_nonpos (by omega),Int.ofNat_natAbs_of_nonpos (by omega),Int.neg_mul_neg]
 ·simp only [h1,h2,decide_true,decide_false];rw [Int.ofNat_natAbs_of_nonpos (by omega),Int.natAbs_of_nonneg (by omega)];simp [Int.neg_mul]
 ·simp only [h1,h2,decide_true,decide_false];rw [Int.natAbs_of_nonneg (by omega),Int.ofNat_natAbs_of_nonpos (by omega)];simp [Int.mul_neg]
 ·simp only [h1,h2,decide_false,bne_self_eq_false,Bool.false_eq_true,if_false];rw [Int.natAbs_of_nonneg (by omega),Int.natAbs_of_nonneg (by omega)]
theorem Zks {x y z:Int} (h:ZJh x y=some z):Zjl x y=some z:=by
 unfold ZJh at h;split at h
 ·rename_i hh
  cases h
  unfold Zjl Zob ZOb;rw [if_pos hh,Za,Za,Zao]
 ·cases h
theorem Zhr {x z:Int} {n:Nat} (h:Zne x n=some z):Ztk x n=some z:=by
 unfold Zne at h;split at h
 ·rename_i hh
  cases h
  unfold Ztk Zob ZOb;rw [if_pos hh,Za,Za];have:=Zao (x:=x) (y:=(n:Int));have h0:decide ((n:Int)<0)=false:=decide_eq_false (by omega);rw [h0] at this;simp only [Int.natAbs_natCast,Bool.bne_false] at this;rw [this]
 ·cases h
theorem Z1r {x z:Int} (h:Zyh x=some z):ZKk x=some z:=by
 unfold Zyh at h
 cases h
 unfold ZKk Zob;rw [Za];by_cases h1:x<0
 ·rw [decide_eq_true h1];simp;omega
 ·rw [decide_eq_false h1];simp;omega
theorem Zmp {n:Int} {z:Rat} (h:ZG n=some z):ZQk n=some z:=by
 unfold ZG at h
 cases h
 unfold ZQk ofF;rw [Za];have:=ZFl (n:Rat);have e:Z6 (n:Rat).den=0:=by simp [Z6]
 rw [e] at this;have e2:(n:Rat).num=n:=by simp
 rw [e2] at this;rw [this,Za]
theorem Z6p {x:Rat} {z:Bool} (h:ZSb x=some z):ZCk x=some z:=by
 unfold ZSb at h;unfold ZCk;rw [ZAo,← h];congr 1;apply decide_eq_decide.2;rw [Int.natAbs_eq_zero,Rat.num_eq_zero]
theorem Zhs {a b:Nat} (ha:a≠0) (hb:b≠0) (h:Z6 a=Z6 b):a=b:=by
 have h1:=ZCj a ha;have h2:=ZCj b hb;rw [← h1,← h2,h]
theorem Zho {n m:Nat}:(ZHa n m==0)=decide (n=m):=by
 unfold ZHa;by_cases h:n<m
 ·rw [if_pos h,decide_eq_false (by omega)];rfl
 ·rw [if_neg h];by_cases h2:m<n
  ·rw [if_pos h2,decide_eq_false (by omega)];rfl
  ·rw [if_neg h2,decide_eq_true (by omega)];rfl
theorem ZJq {x y:Rat} {z:Bool} (h:Zgf x y=some z):Zbk x y=some z:=by
 unfold Zgf at h
 cases h
 unfold Zbk ZAc;by_cases hxy:x=y
 ·subst hxy;simp only [beq_self_eq_true,Zj,Za,Zho,decide_true]
 ·rw [decide_eq_false hxy];by_cases hs:decide (x.num<0)=decide (y.num<0)
  ·rw [hs];simp only [beq_self_eq_true,Zj,Za,Zho];by_cases hn:x.num.natAbs=y.num.natAbs
   ·rw [decide_eq_true hn,Zj,Za];have hnum:x.num=y.num:=by
     by_cases h1:x.num<0 <;> by_cases h2:y.num<0 <;> simp [h1,h2] at hs <;> omega
    have hden:¬ Z6 x.den=Z6 y.den:=fun e=>hxy (Rat.ext hnum (Zhs x.den_nz y.den_nz e));rw [decide_eq_false hden]
   ·rw [decide_eq_false hn,Zh,Za]
  ·have e:(decide (x.num<0)==decide (y.num<0))=false:=by simpa using hs
   rw [e,Zh,Za]
theorem Zqr {n:Int} {d:Nat} {z:Rat} (h:ZVd n d=some z):ZKl n d=some z:=by
 unfold ZVd at h;split at h
 ·rename_i hh;obtain ⟨hn,hd,h0⟩:=hh
  cases h
  unfold ZKl gcdF Z0e Z5c;rw [if_pos ⟨hn,hd⟩,Za,Za];obtain ⟨g,hg⟩:∃ g,g=Nat.gcd n.natAbs d:=⟨_,rfl⟩;have hg0:g≠0:=by rw [hg];exact fun e=>h0 (Nat.gcd_eq_zero_iff.1 e).2
  have hgd:g∣d:=by rw [hg];exact Nat.gcd_dvd_right _ _
  have hgn:g∣n.natAbs:=by rw [hg];exact Nat.gcd_dvd_left _ _
  have hgok:okN g:=Zvl (Nat.le_of_dvd (by omega) hgd) hd;rw [← hg];have both:ifb (!decide (g=1)) (bnd (if okN n.natAbs∧okN g∧g≠0 then some (n.natAbs / g,n.natAbs%g) else none) fun y107=>bnd (if okN d∧okN g∧g≠0 then some (d / g,d%g) else none) fun y135=>some (y135.1,(decide (n<0),y107.1)))
    (some (d,(decide (n<0),n.natAbs)))=some (d / g,(decide (n<0),n.natAbs / g)):=by
   by_cases h1:g=1
   ·rw [decide_eq_true h1,h1];simp [ifb]
   ·rw [decide_eq_false h1,if_pos ⟨hn,hgok,hg0⟩,if_pos ⟨hd,hgok,hg0⟩];rfl
  rw [both,Za];simp only;rw [Za];have hden:ifb (decide (d / g=1)) (some 0) (some (d / g))=some (Z6 (d / g)):=by
   unfold Z6;by_cases h1:d / g=1
   ·rw [decide_eq_true h1,Zj,if_pos h1]
   ·rw [decide_eq_false h1,Zh,if_neg h1]
  rw [hden,Za];have hq:mkRat n d=mkRat n d:=rfl;have e1:(mkRat n d).num=n / (g:Int):=by rw [Rat.num_mkRat,if_neg h0,Nat.gcd_comm,← hg]
  have e2:(mkRat n d).den=d / g:=by rw [Rat.den_mkRat,if_neg h0,Nat.gcd_comm,← hg]
  have hgpos:0<g:=by omega
  obtain ⟨c,hc⟩:=hgn;have hcd:n.natAbs / g=c:=by rw [hc,Nat.mul_div_cancel_left _ hgpos]
  have e3:Z0c (decide (n<0)) (n.natAbs / g)=some (n / (g:Int)):=by
   rw [hcd];by_cases hneg:n<0
   ·rw [decide_eq_true hneg,ZUe (fun _ e=>by rw [e] at hc;omega),if_pos rfl];have:n=(g:Int)*(-(c:Int)):=by
     have h1:(n.natAbs:Int)=(g:Int)*c:=by rw [hc];simp
     rw [Int.mul_neg,← h1];omega
    rw [this,Int.mul_ediv_cancel_left _ (by omega)]
   ·rw [decide_eq_false hneg,ZUe (by simp)];have:n=(g:Int)*(c:Int):=by
     have h1:(n.natAbs:Int)=(g:Int)*c:=by rw [hc];simp
     rw [← h1];omega
    rw [this,Int.mul_ediv_cancel_left _ (by omega)];simp
  rw [e3,Za,← e1,← e2,ZFl,Za]
 ·cases h
noncomputable def ZOk (x:Rat) (y:Rat):Option (Rat) :=
 bnd (Zrc ((Z6 x.den))) fun a =>
 bnd (Zrc ((Z6 y.den))) fun b =>
 bnd (Zne x.num b) fun c =>
 bnd (Zne y.num a) fun d =>
 bnd (ZRg c d) fun e =>
 bnd (ZOb a b) fun f =>
 bnd (ZVd e f) fun g =>
 some g
noncomputable def ZNk (x:Rat) (y:Rat):Option (Rat) :=
 bnd (ZJh x.num y.num) fun a =>
 bnd (Zrc ((Z6 x.den))) fun b =>
 bnd (Zrc ((Z6 y.den))) fun c =>
 bnd (ZOb b c) fun d =>
 bnd (ZVd a d) fun e =>
 some e
noncomputable def Z5j (x:Rat):Option (Rat) :=
 bnd (Zyh x.num) fun a =>
 bnd (Zie a ((Z6 x.den))) fun b =>
 some b
theorem Z8f (q:Rat):Zge (Z6 q.den)=q.den:=ZCj q.den q.den_nz
theorem okN_of {n k:Nat} (h:bl n≤64*k) (hk:k≤68719476736):okN n:=by
 unfold okN;refine Nat.le_trans (ZBi (B:=18446744073709551616) (k:=k) (by decide) ?_) hk;have h1:=Zhd n;have h2:18446744073709551616^k=2^(64*k):=by rw [Nat.pow_mul]
 rw [h2];exact Nat.lt_of_lt_of_le h1 (Nat.pow_le_pow_right (by omega) h)
theorem Zya {n:Nat} (h:bl n≤4398046511104):okN n:=okN_of (k:=(bl n+63) / 64) (by omega) (by omega)
theorem Zcc (a b:Nat):bl (a*b)≤bl a+bl b:=by
 apply Zkc;rw [Nat.pow_add];exact Nat.mul_lt_mul'' (Zhd a) (Zhd b)
theorem Zim (a b:Nat):bl (a+b)≤max (bl a) (bl b)+1:=by
 apply Zkc;have h1:=Zhd a;have h2:=Zhd b;have h3:2^bl a≤2^max (bl a) (bl b):=Nat.pow_le_pow_right (by omega) (Nat.le_max_left ..);have h4:2^bl b≤2^max (bl a) (bl b):=Nat.pow_le_pow_right (by omega) (Nat.le_max_right ..);rw [Nat.pow_succ];omega
theorem ZIr {x y z:Rat} (h:ZH x y=some z):ZOk x y=some z:=by
 unfold ZH at h;split at h
 ·rename_i hh;obtain ⟨⟨h1,h2⟩,h3,h4⟩:=hh
  cases h
  unfold ZOk Zrc Zne ZRg ZOb ZVd;rw [Z8f,Z8f,Za,Za];have p1:=Zcc x.num.natAbs y.den;have p2:=Zcc y.num.natAbs x.den;have p3:=Zcc x.den y.den;have e1:(x.num*(y.den:Int)).natAbs=x.num.natAbs*y.den:=by rw [Int.natAbs_mul];simp
  have e2:(y.num*(x.den:Int)).natAbs=y.num.natAbs*x.den:=by rw [Int.natAbs_mul];simp
  have p4:bl (x.num*(y.den:Int)+y.num*(x.den:Int)).natAbs≤4398046511104:=by
   have h5:=Int.natAbs_add_le (x.num*(y.den:Int)) (y.num*(x.den:Int));have h6:=ZOf h5;have h7:=Zim (x.num*(y.den:Int)).natAbs (y.num*(x.den:Int)).natAbs;rw [e1,e2] at h7;rw [e1,e2] at h6;omega
  rw [if_pos ⟨Zya (by omega),Zya (by omega)⟩,Za,if_pos ⟨Zya (by omega),Zya (by omega)⟩,Za,if_pos ⟨by rw [e1];exact Zya (by omega),by rw [e2];exact Zya (by omega)⟩,Za,
   if_pos ⟨Zya (by omega),Zya (by omega)⟩,Za,if_pos ⟨Zya p4,Zya (by omega),Nat.mul_ne_zero x.den_nz y.den_nz⟩,Za,← Rat.add_def']
 ·cases h
theorem Zxt {x y z:Rat} (h:Zbc x y=some z):ZNk x y=some z:=by
 unfold Zbc at h;split at h
 ·rename_i hh;obtain ⟨⟨h1,h2⟩,h3,h4⟩:=hh
  cases h
  unfold ZNk Zrc ZJh ZOb ZVd;rw [Z8f,Z8f];have p1:=Zcc x.num.natAbs y.num.natAbs;have p3:=Zcc x.den y.den;have e1:(x.num*y.num).natAbs=x.num.natAbs*y.num.natAbs:=Int.natAbs_mul ..;rw [if_pos ⟨Zya (by omega),Zya (by omega)⟩,Za,Za,Za,if_pos ⟨Zya (by omega),Zya (by omega)⟩,Za,if_pos ⟨by rw [e1];exact Zya (by omega),Zya (by omega),Nat.mul_ne_zero x.den_nz y.den_nz⟩,Za,← Rat.mul_def']
 ·cases h
theorem Zhq {x z:Rat} (h:ZHd x=some z):Z5j x=some z:=by
 unfold ZHd at h
 cases h
 unfold Z5j Zyh;rw [Za];have:=ZFl (-x);have e1:(-x).num = -x.num:=rfl;have e2:(-x).den=x.den:=rfl;rw [e1,e2] at this;rw [this,Za]
noncomputable def Zkk (x:Rat) (y:Rat):Option (Rat×Int) :=
 bnd (ZSb y) fun b =>
 ifb (b)
 (some (((0:Rat),(3:Int))))
 (bnd (bnd (Zrc ((Z6 y.den))) fun c =>
 bnd (Zne x.num c) fun d =>
 some d)
 (fun (a:Int) =>
 (bnd (Zob ((decide (a<0)) != (decide (y.num<0))) a.natAbs) fun e =>
 bnd (Zrc ((Z6 x.den))) fun f =>
 bnd (ZOb f ((y.num).natAbs)) fun g =>
 bnd (ZVd e g) fun h =>
 some ((h,(0:Int))))))
noncomputable def Z3k (x:Rat) (y:Rat):Option (Rat) :=
 bnd (ZHd y) fun a =>
 bnd (ZH x a) fun b =>
 some b
theorem Zgm (n d:Int):Rat.divInt n d=mkRat (if d<0 then -n else n) d.natAbs:=by
 cases d with
 | ofNat d=>rw [if_neg (by simp)];rfl
 | negSucc d =>
  rw [if_pos (Int.negSucc_lt_zero d)];show Rat.normalize (-n) (d+1) (Nat.succ_ne_zero d)=mkRat (-n) (d+1);rw [Rat.normalize_eq_mkRat]
theorem inv_mk {y:Rat} (h:y≠0):y⁻¹=mkRat (if y.num<0 then -(y.den:Int) else y.den) y.num.natAbs:=by
 rw [Rat.inv_def,Zgm]
theorem div_mk {x y:Rat} (h:y≠0):x / y=mkRat (if y.num<0 then -(x.num*(y.den:Int)) else x.num*(y.den:Int)) (x.den*y.num.natAbs):=by
 rw [Rat.div_def,inv_mk h]
 conv=>lhs;rw [← Rat.mkRat_self x]
 rw [Rat.mkRat_mul_mkRat]
 ·congr 1;split <;> grind
theorem okQ_neg {x:Rat} (h:okQ x):okQ (-x):=by
 unfold okQ at *;have e1:(-x).num = -x.num:=rfl;have e2:(-x).den=x.den:=rfl;rw [e1,e2,Int.natAbs_neg];exact h
theorem Z7p {x y z:Rat} (h:Zbd x y=some z):Z3k x y=some z:=by
 unfold Zbd at h;split at h
 ·rename_i hh;unfold Z3k ZHd ZH;rw [Za,if_pos ⟨hh.1,okQ_neg hh.2⟩,Za,← Rat.sub_eq_add_neg];exact h
 ·cases h
theorem num_ne {y:Rat} (h:y≠0):y.num≠0:=fun e=>h (by rwa [Rat.num_eq_zero] at e)
theorem sgn_xor (n m:Int):Zob (decide (n<0) != decide (m<0)) n.natAbs=some (if m<0 then -n else n):=by
 unfold Zob;by_cases h1:n<0 <;> by_cases h2:m<0 <;> simp [h1,h2] <;> omega
theorem ZDs {x y:Rat} {z:Rat×Int} (h:Z1d x y=some z):Zkk x y=some z:=by
 unfold Z1d at h;split at h
 ·rename_i hh;obtain ⟨⟨h1,h2⟩,h3,h4⟩:=hh
  cases h
  unfold Zkk ZSb;rw [Za];by_cases h0:y=0
  ·subst h0;rfl
  ·rw [decide_eq_false h0,Zh,if_neg h0];unfold Zne Zrc ZOb ZVd;rw [Z8f,Z8f];have p1:=Zcc x.num.natAbs y.den;have p3:=Zcc x.den y.num.natAbs;have e1:(x.num*(y.den:Int)).natAbs=x.num.natAbs*y.den:=by rw [Int.natAbs_mul];simp
   have e2:(if y.num<0 then -(x.num*(y.den:Int)) else x.num*(y.den:Int)).natAbs=x.num.natAbs*y.den:=by
    split
    ·rw [Int.natAbs_neg];exact e1
    ·exact e1
   have hn:=num_ne h0;rw [Za,if_pos ⟨Zya (by omega),Zya (by omega)⟩,Za,Za,sgn_xor,Za,Za,if_pos ⟨Zya (by omega),Zya (by omega)⟩,Za,
    if_pos ⟨by rw [e2];exact Zya (by omega),Zya (by omega),Nat.mul_ne_zero x.den_nz (by omega)⟩,Za,← div_mk h0]
 ·cases h
noncomputable def ZQj (n:Int):Option ((List UInt8)) :=
 bnd (bnd (Zo (fun s:(List Int)×Int×Int=>match s with
 | (a,b,e) =>
 (ifb (decide ((0:Int)<b))
 (bnd (chk .i64 (e-(1:Int))) fun c =>
 bnd (rem .u64 b (10:Int)) fun g =>
 bnd (idx a c) fun k =>
 bnd (quo .u64 b (10:Int)) fun h =>
 some (.inl (((a.set (c).toNat (IntKind.u8.wrap (IntKind.u64.wrap ((48:Int)+g)))),h,c))))
 (some (.inr ((a,e)))))) Zt (((List.replicate 20 (0:Int)),n,(20:Int))))
 (fun (p:(List Int)×Int)=>match p with
 | (i,j) =>
 (some ((i,j)))))
 (fun (p:(List Int)×Int)=>match p with
 | (d,f) =>
 (bnd (Zqc d f (d.length:Int)) fun l =>
 some ((ZUc (d.drop ((f).toNat))))))
theorem ZJr {n:Nat} (h:n<10):UInt8.ofNat (IntKind.u8.wrap (IntKind.u64.wrap (48+((n:Nat):Int)))).toNat=UInt8.ofNat (48+n):=by
 have:n=0∨n=1∨n=2∨n=3∨n=4∨n=5∨n=6∨n=7∨n=8∨n=9:=by omega
 rcases this with rfl | rfl | rfl | rfl | rfl | rfl | rfl | rfl | rfl | rfl <;> rfl
theorem ZYe {n:Nat} (h:n≠0):ZV n=ZV (n / 10)++[UInt8.ofNat (48+n%10)]:=by rw [ZV,dif_neg h]
theorem ZLc:ZV 0=[]:=by rw [ZV];rfl
theorem Zkt {n:Int} {z:List UInt8} (hn:inR .u64 n) (h:Zjg n=some z):ZQj n=some z:=by
 unfold Zjg at h
 cases h
 have hn:=ZTc.1 hn;obtain ⟨N,rfl⟩:=Int.eq_ofNat_of_zero_le hn.1;unfold ZQj;rw [ZRa];refine Zcb (fun s:(List Int)×Int×Int=>∃ m k:Nat,s.2.1=(m:Int)∧s.2.2=(k:Int)∧k≤20∧m<10^k∧m<18446744073709551616∧s.1.length=20∧ZV m++ZUc (s.1.drop k)=ZV N) (fun s=>s.2.1.toNat)
  (fun r:List Int×Int=>∃ k:Nat,r.2=(k:Int)∧k≤20∧r.1.length=20∧ZUc (r.1.drop k)=ZV N) ⟨N,20,rfl,rfl,by omega,by omega,by omega,by simp,by simp [ZUc]⟩ (ZBa (by simp;omega)) ?_ ?_
 ·rintro ⟨l,m,k⟩ ⟨m,k,rfl,rfl,hk,hm,hm2,hl,hd⟩;simp only at hm hm2 hl hd ⊢;by_cases h0:m=0
  ·right;subst h0;rw [decide_eq_false (by omega),Zh];rw [ZLc,List.nil_append] at hd;exact ⟨_,rfl,k,rfl,hk,hl,hd⟩
  ·left;rw [decide_eq_true (by omega),Zj];have hk0:k≠0:=by rintro rfl;omega
   obtain ⟨j,rfl⟩:∃ j,k=j+1:=⟨k-1,by omega⟩;have c1:chk .i64 (((j+1:Nat):Int)-1)=some (j:Int):=by rw [show ((j+1:Nat):Int)-1=(j:Int) by omega,Zub (by omega)]
   have c2:rem .u64 (m:Int) 10=some ((m%10:Nat):Int):=Z8g (q:=10) (by omega);have c3:quo .u64 (m:Int) 10=some ((m / 10:Nat):Int):=ZZh (q:=10) (by omega) hm2;rw [c1,Za,c2,Za,ZT (by omega),Za,c3,Za];have hm10:m / 10<10^j:=by
    rw [Nat.pow_succ] at hm;omega
   refine ⟨_,rfl,⟨m / 10,j,rfl,rfl,by omega,hm10,by omega,by simp [hl],?_⟩,by simp only [Int.toNat_natCast];omega⟩;simp only [Int.toNat_natCast];have hj:j<l.length:=by omega
   rw [← hd,ZYe h0,List.append_assoc];congr 1;have e:(l.set j (IntKind.u8.wrap (IntKind.u64.wrap (48+((m%10:Nat):Int))))).drop j=IntKind.u8.wrap (IntKind.u64.wrap (48+((m%10:Nat):Int))) :: l.drop (j+1):=by
    rw [List.drop_eq_getElem_cons (by simpa using hj),List.getElem_set_self,List.drop_set_of_lt (by omega)]
   rw [e];show UInt8.ofNat _ :: ZUc _=_;rw [ZJr (Nat.mod_lt _ (by omega))];rfl
 ·rintro ⟨l,k⟩ ⟨k,rfl,hk,hl,hd⟩;simp only at hl hd ⊢;rw [Za];simp only;have:Zqc l (k:Int) (l.length:Int)=some (l.drop k):=by
   unfold Zqc;rw [if_pos ⟨by omega,by omega,by omega⟩];simp
  rw [this,Za,Int.toNat_natCast,hd,Int.toNat_natCast]
theorem Zaq (x:Int) (d:Nat):(x / (d:Int)).natAbs≤x.natAbs:=Int.natAbs_ediv_le_natAbs x d
theorem ZAk (n:Int) (d:Nat):bl (mkRat n d).num.natAbs≤bl n.natAbs∧bl (mkRat n d).den≤bl d∨d=0:=by
 by_cases hd:d=0
 ·exact .inr hd
 ·left;rw [Rat.num_mkRat,Rat.den_mkRat];constructor
  ·refine ZOf ?_;split
   ·simp
   ·exact Zaq n _
  ·refine ZOf ?_;split
   ·omega
   ·exact Nat.div_le_self _ _
theorem Zin (x y:Rat):bl (x+y).num.natAbs≤max (bl x.num.natAbs+bl y.den) (bl y.num.natAbs+bl x.den)+1∧bl (x+y).den≤bl x.den+bl y.den:=by
 rw [Rat.add_def'];rcases ZAk (x.num*(y.den:Int)+y.num*(x.den:Int)) (x.den*y.den) with ⟨h1,h2⟩ | h1
 ·have e1:(x.num*(y.den:Int)).natAbs=x.num.natAbs*y.den:=by rw [Int.natAbs_mul];simp
  have e2:(y.num*(x.den:Int)).natAbs=y.num.natAbs*x.den:=by rw [Int.natAbs_mul];simp
  have h5:=Int.natAbs_add_le (x.num*(y.den:Int)) (y.num*(x.den:Int));have h6:=ZOf h5;have h7:=Zim (x.num*(y.den:Int)).natAbs (y.num*(x.den:Int)).natAbs;rw [e1,e2] at h7;rw [e1,e2] at h6;have:=Zcc x.num.natAbs y.den;have:=Zcc y.num.natAbs x.den;have:=Zcc x.den y.den;omega
 ·exact absurd h1 (Nat.mul_ne_zero x.den_nz y.den_nz)
theorem ZHl (x:Rat):bl (-x).num.natAbs=bl x.num.natAbs∧(-x).den=x.den:=by
 have e1:(-x).num = -x.num:=rfl;exact ⟨by rw [e1,Int.natAbs_neg],rfl⟩
theorem Zsr (x y:Rat):bl (x-y).num.natAbs≤max (bl x.num.natAbs+bl y.den) (bl y.num.natAbs+bl x.den)+1∧bl (x-y).den≤bl x.den+bl y.den:=by
 rw [Rat.sub_eq_add_neg];have:=Zin x (-y);rw [(ZHl y).1,(ZHl y).2] at this;exact this
theorem Zfq (x y:Rat):bl (x*y).num.natAbs≤bl x.num.natAbs+bl y.num.natAbs∧bl (x*y).den≤bl x.den+bl y.den:=by
 rw [Rat.mul_def'];rcases ZAk (x.num*y.num) (x.den*y.den) with ⟨h1,h2⟩ | h1
 ·have e1:(x.num*y.num).natAbs=x.num.natAbs*y.num.natAbs:=Int.natAbs_mul ..;rw [e1] at h1;have:=Zcc x.num.natAbs y.num.natAbs;have:=Zcc x.den y.den;omega
 ·exact absurd h1 (Nat.mul_ne_zero x.den_nz y.den_nz)
theorem ZWq (n:Int):bl (n:Rat).num.natAbs=bl n.natAbs∧bl (n:Rat).den=1:=⟨by rw [Rat.num_intCast],by rw [Rat.den_intCast];decide⟩
end Go.Eng
namespace Go.Eng
open Go.RowKit
theorem Zog {v:Zb} {c:List Value} {a:List Int} (h:(Zz (Zc .u64)).rel v c a):Dig 18446744073709551616 a∧a.length≤9223372036854775807:=by
 have hl:=Z2g h;rw [ZZb] at hl;refine ⟨?_,by omega⟩;obtain ⟨q,cap,rfl,h1,h2,h3⟩:=h;rcases h3 with rfl | ⟨b,off,cc,T,fr,rfl,hb,hr⟩
 ·exact Dig.nil
 ·intro x hx;obtain ⟨i,hi⟩:=List.getElem?_of_mem hx;have hg:=Zha hr hi;obtain ⟨_,h4⟩:=hg;have:=ZTc.1 h4;omega
theorem ZUh {v:Zb} {c:List Value} {n:Nat} (h:Zr.rel v c n):(Zd 18446744073709551616 n).length≤9223372036854775807:=(Zog (a:=Zd 18446744073709551616 n) h).2
theorem Zil {v:Zb}:∀ {cs:List Value} {u:List Int},Rep.rels (Zc .u64) v cs u→Dig 18446744073709551616 u
 | _,[],_=>Dig.nil
 | _,x :: u,h=>by
  obtain ⟨c1,c2,rfl,⟨_,h1⟩,h2⟩:=h
  have:=ZTc.1 h1
  exact Dig.cons.2 ⟨by omega,Zil h2⟩
end Go.Eng
namespace Go.Eng
open Go.RowKit
theorem ZIm {n:Nat} (h:n≠0):bl n=bl (n / 2)+1:=by
 by_cases h1:n=1
 ·subst h1;decide
 ·have:=Zci (n:=n) (k:=1) (by omega)
  simpa using this
end Go.Eng
namespace Go.Eng
open Go.RowKit
theorem wrap_u32 (z:Int):IntKind.u32.wrap z=z%4294967296:=by
 simp [IntKind.wrap,IntKind.signed,IntKind.bits]
theorem Zec {α:Type} {b:Nat} {l:List α} (h:l.length*b≤140737488355328):Z2 b l=some ():=by unfold Z2;rw [if_pos h]
end Go.Eng
namespace Go.Eng
open Go.RowKit
def ZXo (P:Program) (f:FuncId) (T e:TypeId):Prop:=∀ (B b:Nat) (bs:List Value) (s:ByteArray) (w:World),Lib.IsBuilder T e B b bs w→bs.length+s.size≤140737488355328→B≤w.heap.size →
 Calls P f #[.pointer (some ⟨b,0,none⟩),.string s] w fun x w'=>x = .returned (.tuple #[.int .i64 s.size,.nilIface])∧(Lib.BuilderAt T e B b (.pointer (some ⟨b,0,none⟩)) (bs++Lib.strCells s) w'∧Below B w w')
def Tells (P:Program) (f:FuncId) (T e:TypeId):Prop:=∀ (B b:Nat) (l:List UInt8) (w:World),Lib.IsBuilder T e B b (Lib.byteCells l) w→B≤w.heap.size →
 Calls P f #[.pointer (some ⟨b,0,none⟩)] w fun x w'=>x = .returned (.string ⟨l.toArray⟩)∧Below B w w'
structure Bld (T e b:Nat) (w0:Base) (v:Zb) (m:List UInt8) (w:World):Prop where
 is:Lib.IsBuilder T e b b (Lib.byteCells m) w
 old:∀ k o,v k=some o→k<b
 base:w0.wd.heap.size≤b
 lt:b≤w.heap.size
variable {P:Program} {K:Nat} {w0:Base} {v0:Zb} {σ:List (Nat×Value)} {ℓ:List Loc} {v:Zb} {a:Act} {w:World}
variable {ops:Array Oper} {Q:Exit→Act→World→Prop} {rest:List Oper}
theorem St.below {w':World} {b:Nat} (h:St K w0 v0 σ [] v a w) (x:Below b w w') (hv:∀ k o,v k=some o→k<b) (hb:w0.wd.heap.size≤b):St K w0 v0 σ [] v a w' :=
 ⟨h.size,h.dfr,h.fr,⟨x.os.trans h.ext.os,x.tape.trans h.ext.tape,x.output.trans h.ext.output,Nat.le_trans h.ext.size x.size,fun k hk hn=>(x.block k (by omega)).trans (h.ext.block k hk hn)⟩,
  ⟨h.vst.le,fun k o e=>(x.block k (hv k o e)).trans (h.vst.vin k o e),h.vst.old⟩,fun e he=>by simp at he,List.nodup_nil⟩
theorem op_newB {o:Oper} {d T:Nat} (e:Nat) (hS:St K w0 v0 σ ℓ v a w) (hw:Region.wanted o (yielded ops a.tmps)=true) (hd:o.dst=some d) (hK:d<K)
  (hrun:(execOp a.eval o).run P w = .ok (.value (.pointer (some ⟨w.heap.size,0,none⟩))) (w.alloc (.cells #[.pointer none,.slice none 0 0] T)))
  (h:∀ b a w,St K w0 v0 ((d,.pointer (some ⟨b,0,none⟩)) :: σ) [] v a w→Bld T e b w0 v [] w→wpList P ops Q rest a w):wpList P ops Q (o :: rest) a w :=
 Zsc hw (Z4e hrun (by
  rw [hd]
  have h1:St K w0 v0 σ [] v a w:=hS.drop (List.nil_sublist _)
  have h2:Ext w (w.alloc (.cells #[.pointer none,.slice none 0 0] T)):=Ext.alloc w _
  exact h w.heap.size _ _ ((h1.step h2 (VStep.ext h1.vin h2)).put _ hK) ⟨Lib.fresh_isBuilder T e w,fun k o hk=>h1.vin.lt hk,h1.ext.size,h2.size⟩))
theorem Z7s (l l':List UInt8):Lib.byteCells l++Lib.strCells (Zs l')=Lib.byteCells (l++l'):=by simp [Lib.byteCells,Lib.strCells,Zs]
theorem Zkq {o:Oper} {d f T e b:Nat} {m s:List UInt8} (hW:ZXo P f T e) (hB:Bld T e b w0 v m w) (hl:(m++s).length≤140737488355328) (hS:St K w0 v0 σ [] v a w) (hw:Region.wanted o (yielded ops a.tmps)=true) (hd:o.dst=some d) (hK:d<K)
  (hrun:(execOp a.eval o).run P w = .ok (.enter f #[.pointer (some ⟨b,0,none⟩),.string (Zs s)]) w)
  (h:∀ a w,St K w0 v0 ((d,.tuple #[.int .i64 s.length,.nilIface]) :: σ) [] v a w→Bld T e b w0 v (m++s) w→wpList P ops Q rest a w):wpList P ops Q (o :: rest) a w:=by
 have hc:=hW b b (Lib.byteCells m) (Zs s) w hB.is (by rw [Lib.byteCells_length,ZDc,← List.length_append];exact hl) hB.lt;refine Zsc hw (ZFd hrun (Calls.mono hc fun x w' ⟨e1,e2,e3⟩=>⟨_,e1,?_⟩));rw [hd];rw [ZDc] at *;rw [Z7s] at e2;exact h _ _ ((hS.below e3 hB.old hB.base).put _ hK) ⟨.inr e2,hB.old,hB.base,Nat.le_trans hB.lt e3.size⟩
theorem op_tell {o:Oper} {d f T e b:Nat} {m:List UInt8} (hT:Tells P f T e) (hB:Bld T e b w0 v m w) (hS:St K w0 v0 σ [] v a w) (hw:Region.wanted o (yielded ops a.tmps)=true) (hd:o.dst=some d) (hK:d<K)
  (hrun:(execOp a.eval o).run P w = .ok (.enter f #[.pointer (some ⟨b,0,none⟩)]) w)
  (h:∀ a w,St K w0 v0 ((d,.string (Zs m)) :: σ) [] v a w→wpList P ops Q rest a w):wpList P ops Q (o :: rest) a w:=by
 have hc:=hT b b m w hB.is hB.lt;refine Zsc hw (ZFd hrun (Calls.mono hc fun x w' ⟨e1,e3⟩=>⟨_,e1,?_⟩));rw [hd];exact h _ _ ((hS.below e3 hB.old hB.base).put _ hK)
def Z1g (l:List UInt8):Option Unit:=if l.length≤140737488355328 then some () else none
theorem Ziq {l:List UInt8} {u:Unit} (h:Z1g l=some u):l.length≤140737488355328:=by
 unfold Z1g at h;split at h
 ·assumption
 ·cases h
theorem Zes {q:Option Nat} {b o:Nat} (h:mkA q=some ⟨b,o,none⟩):q=some b∧o=0:=by
 cases q with
 | none=>cases h
 | some c=>cases h;exact ⟨rfl,rfl⟩
noncomputable def Zyg (a:Nat):Option ((List UInt8)) :=
 bnd (bnd (Zo (fun s:Nat×(List (List UInt8))=>match s with
 | (h,c) =>
 (ifb (decide ((0:Int)<(((Zd 18446744073709551616 h)).length:Int)))
 (bnd (ZDd h (10000000000000000000:Int)) fun d =>
 bnd (Zjg d.2) fun b =>
 bnd (ifb (decide ((0:Int)<(((Zd 18446744073709551616 d.1)).length:Int)))
 (bnd (chk .i64 ((19:Int)-((b.length:Int)))) fun m =>
 bnd (ZGf (([48]:List UInt8)) m) fun i =>
 bnd (ZWb (i++b)) fun r =>
 some ((i++b)))
 (some b))
 (fun (j:(List UInt8)) =>
 (bnd (Z2 16 (c++[j])) fun t =>
 some (.inl ((d.1,(c++[j])))))))
 (some (.inr c)))) Zt ((a,([]:(List (List UInt8))))))
 (fun (n:(List (List UInt8))) =>
 (some n)))
 (fun (e:(List (List UInt8))) =>
 (ifb (((e.length:Int))==(0:Int))
 (some (([48]:List UInt8)))
 (bnd (chk .i64 (((e.length:Int))-(1:Int))) fun o =>
 bnd (bnd (Zo (fun s:(List UInt8)×Int=>match s with
 | (f,g) =>
 (ifb (decide ((0:Int)≤g))
 (bnd (idx e g) fun k =>
 bnd (Z1g (f++k)) fun u =>
 bnd (chk .i64 (g-(1:Int))) fun p =>
 some (.inl (((f++k),p))))
 (some (.inr f)))) Zt ((([]:List UInt8),o)))
 (fun (q:(List UInt8)) =>
 (some q)))
 (fun (l:(List UInt8)) =>
 (bnd (ZWb l) fun v =>
 some l)))))
noncomputable def Zml (x:Rat):Option ((List UInt8)) :=
 bnd (ZOe ((x.num).natAbs)) fun a =>
 bnd (ifb (decide (x.num<0))
 (bnd (ZWb ((([45]:List UInt8))++a)) fun e =>
 some (((([45]:List UInt8))++a)))
 (some a))
 (fun (b:(List UInt8)) =>
 (bnd (ifb (decide ((0:Int)<(((Zd 18446744073709551616 ((Z6 x.den)))).length:Int)))
 (bnd (ZOe ((Z6 x.den))) fun c =>
 bnd (ZWb ((([47]:List UInt8))++c)) fun f =>
 bnd (ZWb (b++(((([47]:List UInt8))++c)))) fun g =>
 some ((b++(((([47]:List UInt8))++c)))))
 (some b))
 (fun (d:(List UInt8)) =>
 (some d))))
theorem Zkp (n:Nat):(ZV n).length≤bl n:=by
 induction n using Nat.strongRecOn with
 | ind n ih =>
  by_cases h:n=0
  ·subst h;rw [ZLc];simp
  ·rw [ZYe h,List.length_append];have h1:=ih (n / 10) (by omega);have h2:bl (n / 10)+1≤bl n:=by
    rw [ZIm h];exact Nat.add_le_add_right (ZOf (by omega)) 1
   simp only [List.length_cons,List.length_nil];omega
theorem ZWp {n k:Nat} (h:n<10^k):(ZV n).length≤k:=by
 induction k generalizing n with
 | zero=>simp at h;subst h;rw [ZLc];simp
 | succ k ih =>
  by_cases h0:n=0
  ·subst h0;rw [ZLc];simp
  ·rw [ZYe h0,List.length_append];have:=ih (n:=n / 10) (by rw [Nat.pow_succ] at h;omega);simp only [List.length_cons,List.length_nil];omega
theorem Zzs {q:Nat} (hq:q≠0):∀ (k r:Nat),r<10^k→ZV (q*10^k+r)=ZV q++(List.replicate (k-(ZV r).length) 48++ZV r):=by
 intro k
 induction k with
 | zero=>intro r h;simp at h;subst h;rw [ZLc];simp
 | succ k ih =>
  intro r h;rw [Nat.pow_succ] at h;have hn:q*10^(k+1)+r≠0:=by
   have:0<q*10^(k+1):=Nat.mul_pos (by omega) (Nat.pow_pos (by omega));omega
  have e1:(q*10^(k+1)+r) / 10=q*10^k+r / 10:=by rw [Nat.pow_succ,← Nat.mul_assoc];generalize q*10^k=p;omega
  have e2:(q*10^(k+1)+r)%10=r%10:=by rw [Nat.pow_succ,← Nat.mul_assoc];generalize q*10^k=p;omega
  rw [ZYe hn,e1,e2,ih (r / 10) (by omega)];by_cases h0:r=0
  ·subst h0;simp only [Nat.zero_div,ZLc,List.length_nil,Nat.sub_zero,List.append_nil,List.append_assoc];congr 1;rw [List.replicate_succ'];rfl
  ·rw [ZYe h0,List.length_append];simp only [List.length_cons,List.length_nil,List.append_assoc];rw [show k+1-((ZV (r / 10)).length+(0+1))=k-(ZV (r / 10)).length by omega]
theorem Zch {l:List UInt8} (h:l.length≤140737488355328):ZWb l=some ():=by unfold ZWb;rw [if_pos (by unfold maxLen;omega)]
theorem ZIs {n:Nat}:ZV n=[]↔n=0:=by
 constructor
 ·intro h;rcases Nat.eq_zero_or_pos n with h0 | h0
  ·exact h0
  ·rw [ZYe (by omega)] at h;simp at h
 ·rintro rfl;exact ZLc
theorem ZHq (r:List (List UInt8)) (j:Nat):((r.drop j).reverse.flatten).length≤r.reverse.flatten.length:=by
 have h:r.reverse.flatten=(r.drop j).reverse.flatten++(r.take j).reverse.flatten:=by
  rw [← List.flatten_append,← List.reverse_append,List.take_append_drop]
 rw [h,List.length_append];omega
theorem ZOo (c:UInt8):∀ k:Nat,(List.replicate k [c]).flatten=List.replicate k c
 | 0=>rfl
 | k+1=>by rw [List.replicate_succ,List.flatten_cons,ZOo c k,List.replicate_succ];rfl
theorem text_eq {a:Nat} (ha:okN a):Zyg a=some (ZIb a):=by
 unfold Zyg;have hbl:=ZRl ha;have hda:=Zkp a;rw [ZRa];refine Zcb (fun s:Nat×List (List UInt8)=>okN s.1∧ZV s.1++s.2.reverse.flatten=ZV a∧bl s.1+s.2.length≤bl a) (fun s=>bl s.1) (fun r:List (List UInt8)=>r.reverse.flatten=ZV a∧r.length≤bl a∧(a≠0→r≠[])) ⟨ha,by simp,by simp⟩ (ZBa (by simp only;omega)) ?_ ?_
 ·rintro ⟨x,s⟩ ⟨hx,he,hl⟩;simp only at hx he hl ⊢;by_cases h0:x=0
  ·right;subst h0;rw [Zva,show decide ((0:Int)<(([]:List Int).length:Int))=false from rfl,Zh];rw [ZLc,List.nil_append] at he;refine ⟨_,rfl,he,by omega,fun h1 h2=>?_⟩;subst h2;exact h1 (ZIs.1 he.symm)
  ·left;have hpos:=List.length_pos_iff.2 ((Z7d (n:=x) (B:=18446744073709551616) (by decide)).2 h0);have e1:ZDd x (10000000000000000000:Int)=some (x / 10000000000000000000,((x%10000000000000000000:Nat):Int)):=by
    unfold ZDd;rw [if_pos ⟨hx,by omega⟩];rfl
   have e2:Zjg ((x%10000000000000000000:Nat):Int)=some (ZV (x%10000000000000000000)):=by unfold Zjg;rw [Int.toNat_natCast]
   rw [decide_eq_true (show (0:Int)<((Zd 18446744073709551616 x).length:Int) by omega),Zj,e1,Za];simp only;rw [e2,Za];have hr:(ZV (x%10000000000000000000)).length≤19:=ZWp (k:=19) (Nat.mod_lt _ (by decide));have hb2:bl (x / 10000000000000000000)+1≤bl x:=by
    rw [ZIm h0];exact Nat.add_le_add_right (ZOf (by omega)) 1
   have hsplit:∃ p:List UInt8,ifb (decide ((0:Int)<((Zd 18446744073709551616 (x / 10000000000000000000)).length:Int))) (bnd (chk .i64 (19-((ZV (x%10000000000000000000)).length:Int))) fun y218=>bnd (ZGf [48] y218) fun y220=>bnd (ZWb (y220++ZV (x%10000000000000000000))) fun y227=>some (y220++ZV (x%10000000000000000000))) (some (ZV (x%10000000000000000000)))=some p∧ZV (x / 10000000000000000000)++p=ZV x:=by
    by_cases hq:x / 10000000000000000000=0
    ·refine ⟨_,by rw [hq,Zva];rfl,?_⟩;rw [hq,ZLc,List.nil_append];congr 1;omega
    ·have hpos:=List.length_pos_iff.2 ((Z7d (n:=x / 10000000000000000000) (B:=18446744073709551616) (by decide)).2 hq);obtain ⟨k,hk⟩:∃ k,k=19-(ZV (x%10000000000000000000)).length:=⟨_,rfl⟩;have e3:chk .i64 (19-((ZV (x%10000000000000000000)).length:Int))=some (k:Int):=by rw [show (19-((ZV (x%10000000000000000000)).length:Int))=(k:Int) by omega,Zub (by omega)]
     have e4:ZGf [48] (k:Int)=some (List.replicate k 48):=by
      unfold ZGf;rw [if_pos ⟨by omega,by simp;omega⟩,Int.toNat_natCast,ZOo]
     refine ⟨List.replicate k 48++ZV (x%10000000000000000000),?_,?_⟩
     ·rw [decide_eq_true (by omega),Zj,e3,Za,e4,Za,Zch (by simp;omega),Za]
     ·have:=Zzs hq 19 (x%10000000000000000000) (Nat.mod_lt _ (by decide));rw [show x / 10000000000000000000*10^19+x%10000000000000000000=x by omega] at this;rw [this,hk]
   obtain ⟨p,ep,hp⟩:=hsplit;rw [ep,Za,Zec (by simp;omega),Za];refine ⟨_,rfl,⟨Zvl (Nat.div_le_self _ _) hx,?_,by simp;omega⟩,by simp only;omega⟩;simp only [List.reverse_append,List.reverse_cons,List.reverse_nil,List.nil_append,List.singleton_append,List.flatten_cons];rw [← List.append_assoc,hp,he]
 ·rintro r ⟨hr,hl,hne⟩;rw [Za];by_cases h0:a=0
  ·subst h0;have:r=[]:=by
    have:=hl;simp [bl] at this;exact this
   subst this;rfl
  ·have hne:=hne h0;have hpos:0<r.length:=List.length_pos_iff.2 hne;have e1:((r.length:Int)==0)=false:=beq_false_of_ne (by omega);rw [e1,Zh,Zu (by omega) (by omega),Za,ZRa];unfold ZIb;rw [if_neg h0];refine Zcb (fun s:List UInt8×Int=>∃ k:Nat,s.2=(k:Int)-1∧k≤r.length∧s.1=(r.drop k).reverse.flatten) (fun s=>(s.2+1).toNat) (fun t:List UInt8=>t=ZV a) ⟨r.length,rfl,by omega,by simp⟩ (ZBa (by simp only;omega)) ?_ ?_
   ·rintro ⟨s,i⟩ ⟨k,hi,hk,hs⟩;simp only at hi hs ⊢;subst hi hs;by_cases hk0:k=0
    ·right;subst hk0;rw [show decide ((0:Int)≤((0:Nat):Int)-1)=false from rfl,Zh];exact ⟨_,rfl,by rw [List.drop_zero];exact hr⟩
    ·left;obtain ⟨j,rfl⟩:∃ j,k=j+1:=⟨k-1,by omega⟩;have ej:((j+1:Nat):Int)-1=(j:Int):=by omega
     have hj:j<r.length:=by omega
     have hnew:(r.drop (j+1)).reverse.flatten++r[j]=(r.drop j).reverse.flatten:=by
      rw [List.drop_eq_getElem_cons hj,List.reverse_cons,List.flatten_append];simp
     have hlen:((r.drop j).reverse.flatten).length≤r.reverse.flatten.length:=ZHq r j;rw [hr] at hlen;have e2:Z1g ((r.drop (j+1)).reverse.flatten++r[j])=some ():=by unfold Z1g;rw [if_pos (by rw [hnew];omega)]
     rw [ej,decide_eq_true (show (0:Int)≤(j:Int) by omega),Zj,ZT hj,Za,e2,Za,Zu (by omega) (by omega),Za];exact ⟨_,rfl,⟨j,rfl,by omega,hnew⟩,by simp⟩
   ·rintro t rfl;rw [Za,Zch (by omega),Za]
theorem ZGr {n:Nat} {z:List UInt8} (h:ZOe n=some z):Zyg n=some z:=by
 unfold ZOe at h;split at h
 ·rename_i hh;rw [text_eq hh,h]
 ·cases h
theorem ZCo {n:Nat} (h:bl n≤4398046511104):(ZIb n).length≤4398046511104:=by
 unfold ZIb;split
 ·simp
 ·have:=Zkp n;omega
theorem ZCs {x:Rat} {z:List UInt8} (h:Zeg x=some z):Zml x=some z:=by
 unfold Zeg at h;split at h
 ·rename_i hh;obtain ⟨h1,h2⟩:=hh
  cases h
  unfold Zml ZOe;have l1:=ZCo (n:=x.num.natAbs) (by omega);have l2:=ZCo (n:=x.den) (by omega);rw [if_pos (Zya (by omega)),Za];have e1:ifb (decide (x.num<0)) (bnd (ZWb ([45]++ZIb x.num.natAbs)) fun y80=>some (([45]:List UInt8)++ZIb x.num.natAbs)) (some (ZIb x.num.natAbs))=some ((if x.num<0 then [45] else [])++ZIb x.num.natAbs):=by
   by_cases h:x.num<0
   ·rw [decide_eq_true h,Zj,Zch (by simp;omega),Za,if_pos h]
   ·rw [decide_eq_false h,Zh,if_neg h];rfl
  rw [e1,Za];unfold txtQ;have l3:((if x.num<0 then [45] else [])++ZIb x.num.natAbs:List UInt8).length≤4398046511105:=by
   rw [List.length_append];split <;> simp <;> omega
  generalize ((if x.num<0 then [45] else [])++ZIb x.num.natAbs:List UInt8)=s at *;by_cases hd:x.den=1
  ·rw [hd];rw [show Z6 1=0 from rfl,Zva];simp [ifb,bnd]
  ·have e2:Z6 x.den=x.den:=by unfold Z6;rw [if_neg hd]
   have hpos:=List.length_pos_iff.2 ((Z7d (n:=x.den) (B:=18446744073709551616) (by decide)).2 x.den_nz);rw [e2,decide_eq_true (by omega),Zj,if_pos (Zya (by omega)),Za,Zch (by simp;omega),Za,Zch (by simp;omega),Za,Za,if_neg hd];rfl
 ·cases h
theorem ZLr (x:Rat):0≤x*x:=by
 by_cases h:0≤x
 ·exact Rat.mul_nonneg h h
 ·have h2:0≤-x:=by grind
  have:=Rat.mul_nonneg h2 h2;grind
def sz (k:Nat) (x:Rat):Prop:=bl x.num.natAbs≤k∧bl x.den≤k
theorem sz.mono {k m:Nat} {x:Rat} (h:sz k x) (hk:k≤m):sz m x:=⟨by have:=h.1;omega,by have:=h.2;omega⟩
theorem sz.ok {k:Nat} {x:Rat} (h:sz k x) (hk:k≤1099511627776):okQ x:=⟨by have:=h.1;omega,by have:=h.2;omega⟩
theorem sz.sm {k:Nat} {x:Rat} (h:sz k x) (hk:k≤68719476736):smQ x:=⟨by have:=h.1;omega,by have:=h.2;omega⟩
theorem sz_add {k m:Nat} {x y:Rat} (h:sz k x) (h':sz m y):sz (k+m+1) (x+y):=by
 have:=Zin x y;obtain ⟨a,b⟩:=h;obtain ⟨c,d⟩:=h';exact ⟨by omega,by omega⟩
theorem sz_sub {k m:Nat} {x y:Rat} (h:sz k x) (h':sz m y):sz (k+m+1) (x-y):=by
 have:=Zsr x y;obtain ⟨a,b⟩:=h;obtain ⟨c,d⟩:=h';exact ⟨by omega,by omega⟩
theorem Zng {k m:Nat} {x y:Rat} (h:sz k x) (h':sz m y):sz (k+m) (x*y):=by
 have:=Zfq x y;obtain ⟨a,b⟩:=h;obtain ⟨c,d⟩:=h';exact ⟨by omega,by omega⟩
theorem Z0m {k:Nat} {x:Rat} (h:sz k x):sz k (-x):=by
 obtain ⟨a,b⟩:=h;have:=ZHl x;exact ⟨by rw [this.1];exact a,by rw [this.2];exact b⟩
theorem ZVj {n:Int} (h:-9223372036854775808≤n∧n≤9223372036854775807):sz 64 (n:Rat):=by
 have h2:=ZWq n;have h3:bl n.natAbs≤64:=Zkc (show n.natAbs<2^64 by omega);exact ⟨by omega,by omega⟩
def i64 (r:Int×Int):Prop:=(-9223372036854775808≤r.1∧r.1≤9223372036854775807)∧(-9223372036854775808≤r.2∧r.2≤9223372036854775807)
def decG:Nat→Nat→List UInt8
 | 0,_=>[]
 | k+1,n=>if n=0 then [] else decG k (n / 10)++[UInt8.ofNat (48+n%10)]
theorem Zsl:∀ (k n:Nat),n≤k→decG k n=ZV n
 | 0,n,h=>by
  have:n=0:=by omega
  subst this;rw [ZLc];rfl
 | k+1,n,h=>by
  by_cases h0:n=0
  ·subst h0;rw [ZLc];rfl
  ·rw [ZYe h0,decG,if_neg h0,Zsl k (n / 10) (by omega)]
def txtG (x:Rat):List UInt8:=(if x.num<0 then [45] else [])++(if x.num.natAbs=0 then [48] else decG x.num.natAbs x.num.natAbs)++(if x.den=1 then [] else 47 :: (if x.den=0 then [48] else decG x.den x.den))
theorem txtG_eq:txtG=txtQ:=by
 funext x
 unfold txtG txtQ ZIb;rw [Zsl _ _ (Nat.le_refl _),Zsl _ _ (Nat.le_refl _)]
def Zrm (x:Rat):Option (List UInt8):=if okQ x then some (txtG x) else none
theorem Zos:Zeg=Zrm:=by
 funext x
 unfold Zeg Zrm;rw [txtG_eq]
theorem ZE {α β:Type} {x:Option α} {y:α} {f:α→Option β} {z:Option β} (h:x=some y) (h2:f y=z):bnd x f=z:=by subst h;rw [Za];exact h2
theorem Zra {S R:Type} {body:S→Option (S ⊕ R)} {s:S} {r:R} (st:Nat→S) (n:Nat) (h0:st 0=s) (hn:n<2^64) (h:∀ k,k<n→body (st k)=some (.inl (st (k+1)))) (he:body (st n)=some (.inr r)):Zo body Zt s=some r:=by
 have key:∀ m f k,k+m=n→m<f→Zo body f (st k)=some r:=by
  intro m
  induction m with
  | zero =>
   intro f k hk hf;obtain ⟨f,rfl⟩:∃ g,f=g+1:=⟨f-1,by omega⟩;obtain rfl:k=n:=by omega
   unfold Zo;rw [he,Za]
  | succ m ih =>
   intro f k hk hf;obtain ⟨f,rfl⟩:∃ g,f=g+1:=⟨f-1,by omega⟩;unfold Zo;rw [h k (by omega),Za];exact ih f (k+1) (by omega) (by omega)
 rw [← h0];exact key n Zt 0 (by omega) (ZBa (by omega))
end Go.Eng
