/- Lemmas towards the statement: the engine of the walks, the functions' models, laws and walks, part 3. Conditions: as each states. -/
import Derived.LoopN
import Derived.Test.YtlaibjmfjnhaoaaGreatBsB
set_option linter.all false
set_option maxRecDepth 100000
namespace Go.Eng
open Go.RowKit
structure Con where
 args:List T
 res:List T
 F:Zz args→Option (Zz res)
structure ConO where
 args:List T
 ty:TypeId
 t:T
 F:Zz args→Option (List t.den)
structure ConM where
 args:List T
 ty:TypeId
 ty2:TypeId
 t:T
 F:Zz args→Option (List (List t.den))
structure ConI where
 ty:TypeId
 t:T
 F:List t.den→Int→t.den→Option (List t.den)
inductive CT where
 | dat (t:T)
 | own (ty:TypeId) (t:T)
 | mat (ty ty2:TypeId) (t:T)
 | nl
 | one (a:CT)
 | cons (a b:CT)
 | agg (c:CT)
 | box (ty:TypeId) (c:CT)
def CT.den:CT→Type
 | .dat t=>t.den
 | .own _ t=>List t.den
 | .mat _ _ t=>List (List t.den)
 | .nl=>Unit
 | .one a=>a.den
 | .cons a b=>a.den×b.den
 | .agg c=>c.den
 | .box _ c=>c.den
structure ConB where
 ty:TypeId
 c:CT
 args:List T
 res:List T
 F:c.den→Zz args→Option (c.den×Zz res)
structure ConD where
 ty:TypeId
 t:T
 F:List t.den→Int→Int→Option (List t.den)
structure ConP where
 args:List T
 ty:TypeId
 t:T
 res:List T
 F:Zz args→Option (List t.den×Zz res)
structure Ex where
 pows:List (FuncId×ConP):=[]
 omats:List (FuncId×ConM):=[]
 boxs:List (FuncId×ConB):=[]
 dels:List (FuncId×ConD):=[]
structure Cf where
 P:Program
 leafs:List (TypeId×Nat)
 cons:List (FuncId×Con)
 mats:List Nat
 owns:List (FuncId×ConO)
 ins:List (FuncId×ConI)
 meths:List ((TypeId×String)×FuncId)
 ex:Ex:={}
abbrev Cf.omats (C:Cf):=C.ex.omats
abbrev Cf.boxs (C:Cf):=C.ex.boxs
abbrev Cf.dels (C:Cf):=C.ex.dels
abbrev Cf.pows (C:Cf):=C.ex.pows
def lkM:List ((TypeId×String)×FuncId)→TypeId→String→Option FuncId
 | [],_,_=>none
 | p :: r,t,m=>match Nat.beq p.1.1 t,p.1.2==m with
  | true,true=>some p.2
  | _,_=>lkM r t m
def codeF (f:TypeId→Option T):TypeId→List Field→Option T
 | t,[]=>f t
 | t,h :: r=>match f t,codeF f h.type r with
  | some a,some b=>some (.pair a b)
  | _,_=>none
def ZEf (a:T):Nat→T
 | 0=>.one a
 | 1=>.one a
 | 2=>.pair a a
 | k+3=>.pair a (ZEf a (k+2))
def ZPe (a:T):(n:Nat)→(ZEf a n).den→List a.den
 | 0,_=>[]
 | 1,x=>[x]
 | 2,x=>[x.1,x.2]
 | k+3,x=>x.1 :: ZPe a (k+2) x.2
def Zke (C:Cf):Nat→TypeId→Option T
 | 0,_=>none
 | g+1,t=>match ZU C.leafs t with
  | some i=>some (.leaf i)
  | none=>match C.P.underlying t with
   | some (.int k)=>some (.int k)
   | some .bool=>some .bool
   | some (.float k)=>some (.flt k)
   | some .string=>some .str
   | some (.slice e)=>match Zke C g e with
    | some a=>some (.slice a)
    | none=>none
   | some (.array n e)=>match Zke C g e,Nat.blt 0 n with
    | some a,true=>some (ZEf a n)
    | _,_=>none
   | some (.struct fs)=>match fs.toList with
    | []=>none
    | [f]=>match Zke C g f.type with
     | some a=>some (.one a)
     | none=>none
    | f :: h :: r=>codeF (Zke C g) f.type (h :: r)
   | _=>none
def zeroLf:(i:Nat)→Option (Zym i)
 | 0=>some (0:Nat)
 | 1=>some (0:Nat)
 | 2=>some (0:Int)
 | 3=>some (0:Rat)
 | _=>none
def ZLf:(t:T)→Option t.den
 | .int _=>some (0:Int)
 | .bool=>some false
 | .flt _=>some (0:Nat)
 | .str=>some ([]:List UInt8)
 | .one a=>ZLf a
 | .pair a b=>match ZLf a,ZLf b with
  | some x,some y=>some (x,y)
  | _,_=>none
 | .slice _=>some []
 | .leaf i=>zeroLf i
 | .ptr _=>none
def zSl:List Value→Option (List Value)
 | .slice none 0 0 :: r=>some r
 | _=>none
def zOK:T→List Value→Option (List Value)
 | .int k,.int k' n :: r=>match kEq k k',n with
  | true,.ofNat 0=>some r
  | _,_=>none
 | .bool,.bool false :: r=>some r
 | .flt k,.float k' 0 :: r=>match fEqK k k' with
  | true=>some r
  | false=>none
 | .str,.string s :: r=>match s.data.toList with
  | []=>some r
  | _=>none
 | .one a,cs=>zOK a cs
 | .pair a b,cs=>match zOK a cs with
  | some r=>zOK b r
  | none=>none
 | .slice _,cs=>zSl cs
 | .leaf 0,cs=>zSl cs
 | .leaf 1,cs=>zSl cs
 | .leaf 2,.bool false :: cs=>zSl cs
 | .leaf 3,.bool false :: cs=>match zSl cs with
  | some r=>zSl r
  | none=>none
 | _,_=>none
def Ztg (t:T) (cs:List Value):Option (V×List Value):=match ZLf t,zOK t cs with
 | some x,some r=>some (.data t x,r)
 | _,_=>none
def ZLk (f:TypeId→List Value→Option (V×List Value)):List Field→List Value→Option (V×List Value)
 | [],cs=>some (.nl,cs)
 | h :: r,cs=>match f h.type cs with
  | some (v,cs)=>match ZLk f r cs with
   | some (c,cs)=>some (.cons v c,cs)
   | none=>none
  | none=>none
def zRep (f:List Value→Option (V×List Value)):Nat→List Value→Option (V×List Value)
 | 0,cs=>some (.nl,cs)
 | k+1,cs=>match f cs with
  | some (v,cs)=>match zRep f k cs with
   | some (c,cs)=>some (.cons v c,cs)
   | none=>none
  | none=>none
def ZUi (C:Cf):Nat→TypeId→List Value→Option (V×List Value)
 | 0,_,_=>none
 | g+1,t,cs=>match ZU C.leafs t with
  | some 4=>match cs with
   | .bool false :: .slice none 0 0 :: .slice none 0 0 :: r=>some (.agg (.cons (.data .bool false) (.cons (.data (.leaf 1) (0:Nat)) (.cons (.data (.leaf 1) (0:Nat)) .nl))),r)
   | _=>none
  | some i=>Ztg (.leaf i) cs
  | none=>match C.P.underlying t with
   | some (.int k)=>Ztg (.int k) cs
   | some .bool=>Ztg .bool cs
   | some (.float k)=>Ztg (.flt k) cs
   | some .string=>Ztg .str cs
   | some (.slice _)=>match zSl cs with
    | some r=>some (.nilS,r)
    | none=>none
   | some (.struct fs)=>match ZLk (ZUi C g) fs.toList cs with
    | some (c,r)=>some (.agg c,r)
    | none=>none
   | some (.array n e)=>match zRep (ZUi C g e) n cs with
    | some (c,r)=>some (.agg c,r)
    | none=>none
   | _=>none
def Zjk (C:Cf) (t:TypeId):Option V:=match C.P.info? t with
 | some i=>match i.zero with
  | some z=>match ZUi C FU t z.cells.toList with
   | some (v,[])=>some v
   | _=>none
  | none=>none
 | none=>none
def aggD:TypeDesc→Bool
 | .struct _=>true
 | .array _ _=>true
 | _=>false
def szA (P:Program) (t:TypeId):Option (Nat×Bool):=match P.info? t,P.underlying t with
 | some i,some d=>some (i.size,aggD d)
 | _,_=>none
def fldA (P:Program) (s:TypeId) (f:Nat):Option Nat:=match P.underlying s with
 | some (.struct fs)=>match fs.toList[f]? with
  | some h=>match P.info? h.type with
   | some i=>match Nat.blt 0 i.size with
    | true=>some h.offset
    | false=>none
   | none=>none
  | none=>none
 | _=>none
def fldT (P:Program) (s:TypeId) (f:Nat):Option Field:=match P.underlying s with
 | some (.struct fs)=>fs.toList[f]?
 | _=>none
def ZGi (P:Program) (t:TypeId):Option (TypeId×Nat):=match P.underlying t with
 | some (.slice e)=>match P.info? e with
  | some i=>some (e,i.size)
  | none=>none
 | _=>none
structure EI where
 e:TypeId
 sz:Nat
 by_:Nat
 z:Value
def ZTf (P:Program) (t:TypeId):Option EI:=match P.underlying t with
 | some (.slice e)=>match P.info? e with
  | some i=>match i.zero with
   | some z=>match Nat.beq z.cells.toList.length i.size,Nat.blt 0 i.size,Nat.blt 0 i.bytes with
    | true,true,true=>some ⟨e,i.size,i.bytes,z⟩
    | _,_,_=>none
   | none=>none
  | none=>none
 | _=>none
def Zsk:Value→Option V
 | .bool b=>some (.data .bool b)
 | .int k n=>if inR k n then some (.data (.int k) n) else none
 | .float k n=>if n<18446744073709551616 then some (.data (.flt k) n) else none
 | .string s=>if s.data.toList.length≤maxLen then some (.data .str s.data.toList) else none
 | .slice none 0 0=>some .nilS
 | _=>none
def opd {ρ:Type} (x:Operand) (k:V→Ev ρ):Ev ρ:=match x with
 | .tmp t=>.rdS t k
 | .const c=>match Zsk c with
  | some v=>k v
  | none=>.fail
 | .func f=>k (.fn f .nl)
 | .global _=>.fail
def ret (o:Oper) (v:V):Ev Unit:=match o.dst with
 | some d=>.wrS d v (.done ())
 | none=>.fail
def Z8a {ρ:Type} (v:V) (k:IntKind→Int→Ev ρ):Ev ρ:=match v with
 | .data (.int κ) x=>k κ x
 | _=>.fail
def Zmm {ρ:Type} (v:V) (k:Bool→Ev ρ):Ev ρ:=match v with
 | .data .bool x=>k x
 | _=>.fail
def nthV:V→Nat→Option V
 | .cons a _,0=>some a
 | .cons _ b,n+1=>nthV b n
 | _,_=>none
def appV:V→V→V
 | .cons a b,c=>.cons a (appV b c)
 | _,c=>c
def binI {ρ:Type} (op:BinOp) (κ:IntKind) (x y:Int) (k:V→Ev ρ):Ev ρ:=match op with
 | .add=>match κ.signed with
  | true=>.bind (chk κ (x+y)) λz=>k (.data (.int κ) z)
  | false=>k (.data (.int κ) (κ.wrap (x+y)))
 | .sub=>match κ.signed with
  | true=>.bind (chk κ (x-y)) λz=>k (.data (.int κ) z)
  | false=>k (.data (.int κ) (κ.wrap (x-y)))
 | .mul=>match κ.signed with
  | true=>.bind (chk κ (x*y)) λz=>k (.data (.int κ) z)
  | false=>k (.data (.int κ) (κ.wrap (x*y)))
 | .quo=>.bind (quo κ x y) λz=>k (.data (.int κ) z)
 | .rem=>.bind (rem κ x y) λz=>k (.data (.int κ) z)
 | .and=>k (.data (.int κ) (ZPa κ x y))
 | .or=>k (.data (.int κ) (orI κ x y))
 | .xor=>k (.data (.int κ) (xorI κ x y))
 | .lss=>k (.data .bool (decide (x<y)))
 | .leq=>k (.data .bool (decide (x≤y)))
 | .gtr=>k (.data .bool (decide (y<x)))
 | .geq=>k (.data .bool (decide (y≤x)))
 | .eql=>k (.data .bool (x==y))
 | .neq=>k (.data .bool (x != y))
 | _=>.fail
def binE {ρ:Type} (P:Program) (op:BinOp) (t:TypeId) (v v':V) (k:V→Ev ρ):Ev ρ:=match v,v' with
 | .data (.int κ) x,.data (.int κ') y=>match op with
  | .shl=>.bind (ZXa κ x y) λz=>k (.data (.int κ) z)
  | .shr=>.bind (ZP κ x y) λz=>k (.data (.int κ) z)
  | op=>match kEq κ κ' with
   | true=>binI op κ x y k
   | false=>.fail
 | .data .bool (x:Bool),.data .bool (y:Bool)=>match P.underlying t with
  | some .bool=>match op with
   | .eql=>k (.data .bool (x==y))
   | .neq=>k (.data .bool (x != y))
   | _=>.fail
  | _=>.fail
 | .data .str (x:List UInt8),.data .str (y:List UInt8)=>match op with
  | .add=>.bind (ZKc (x++y)) λ_=>k (.data .str (x++y))
  | .eql=>k (.data .bool (x==y))
  | .neq=>k (.data .bool (x != y))
  | _=>.fail
 | _,_=>.fail
def ldE {ρ:Type} (P:Program) (t:TypeId) (p:V) (k:V→Ev ρ):Ev ρ:=match szA P t with
 | none=>.fail
 | some s=>match p with
  | .ptr u off=>.rdL u λ_ L=>match L with
   | .box _ c=>match Zwa FU c off s.1 s.2 with
    | some z=>k z
    | none=>.fail
   | _=>.fail
  | .el u _ cv e x off=>.rdL u λcv' L=>match L with
   | .own _ _ _ _=>match Nat.beq cv' cv with
    | true=>match Zwa FU (.data e x) off s.1 s.2 with
     | some z=>k z
     | none=>.fail
    | false=>.fail
   | _=>.fail
  | .vp e x off=>match Zwa FU (.data e x) off s.1 s.2 with
   | some z=>k z
   | none=>.fail
  | .rp u i hv cv e r=>.rdL u λcv' L=>match L with
   | .mat _ _ _ _ hv'=>match Nat.beq hv' hv,Nat.beq cv' cv,s.2 with
    | true,true,false=>k (.row u i hv cv e r)
    | _,_,_=>.fail
   | _=>.fail
  | .rel u _ _ hv cv e _ x off=>.rdL u λcv' L=>match L with
   | .mat _ _ _ _ hv'=>match Nat.beq hv' hv,Nat.beq cv' cv with
    | true,true=>match Zwa FU (.data e x) off s.1 s.2 with
     | some z=>k z
     | none=>.fail
    | _,_=>.fail
   | _=>.fail
  | _=>.fail
def V.plain:V→Bool
 | .undef | .tup _=>false
 | .cons a b=>match a.plain with
  | true=>b.plain
  | false=>false
 | .agg c=>c.plain
 | _=>true
def V.fit (v:V):Bool:=match v.plain,v.isAgg with
 | true,true=>true
 | true,false=>Nat.beq v.size 1
 | false,_=>false
def Zbc (s t:T) (l:List s.den):Option (List t.den):=T.cast (.slice s) (.slice t) l
def ZSb (s t:T) (m:List (List s.den)):Option (List (List t.den)):=T.cast (.slice (.slice s)) (.slice (.slice t)) m
def eqN (i j:Nat):Option Unit:=if i=j then some () else none
def ZVd {α:Type} (m:List (List α)) (i j:Nat):List (List α):=(m.set i (m.getD j [])).set j (m.getD i [])
def stE (P:Program) (nid:Nat) (t:TypeId) (p v:V):Ev Unit:=match szA P t with
 | none=>.fail
 | some q=>match Nat.beq v.size q.1,eqB v.isAgg q.2,v.fit with
  | true,true,true=>match p with
   | .ptr u off=>.rdL u λ_ L=>match L with
    | .box ty c=>match Zjb FU c off v with
     | some c'=>.wrL u (.box ty c') (.done ())
     | none=>.fail
    | _=>.fail
   | .el u i cv s x off=>match Zjb FU (.data s x) off v with
    | some z=>conv FU s z λy=>.rdL u λcv' L=>match L with
     | .own ty s' l false=>match Nat.beq off 0,Nat.beq v.size s.n,Nat.beq cv' cv with
      | true,true,_=>match T.cast s s' y with
       | some y'=>.wrL u (.own ty s' (l.set i y') false) (.done ())
       | none=>.fail
      | _,_,true=>match T.cast s s' y with
       | some y'=>.wrL u (.own ty s' (l.set i y') false) (.done ())
       | none=>.fail
      | _,_,_=>.fail
     | _=>.fail
    | none=>.fail
   | .rp u i _ _ _ _=>match v with
    | .own u2=>.rdL u λ_ L=>match L with
     | .mat ty ty2 s m _=>.rdL u2 λ_ L2=>match L2 with
      | .own ty3 s' l false=>match Nat.beq ty3 ty2,Zbc s' s l with
       | true,some l'=>.del u2 (.wrL u (.mat ty ty2 s (m.set i l') nid) (.done ()))
       | _,_=>.fail
      | _=>.fail
     | .mid ty ty2 s m _ (.hol j)=>.bind (eqN i j) λ_=>.rdL u2 λ_ L2=>match L2 with
      | .own ty3 s' l false=>match Nat.beq ty3 ty2,Zbc s' s l with
       | true,some l'=>.del u2 (.wrL u (.mat ty ty2 s (m.set i l') nid) (.done ()))
       | _,_=>.fail
      | _=>.fail
     | _=>.fail
    | .row u2 j hv2 _ _ _=>.rdL u λ_ L=>match L with
     | .mat ty ty2 s m hv=>match Nat.beq u2 u,Nat.beq hv hv2 with
      | true,true=>.wrL u (.mid ty ty2 s m hv (.swp i j)) (.done ())
      | _,_=>.fail
     | .mid ty ty2 s m hv (.swp i0 j0)=>match Nat.beq u2 u,Nat.beq hv hv2 with
      | true,true=>.bind (eqN i j0) λ_=>.bind (eqN j i0) λ_=>.wrL u (.mat ty ty2 s (ZVd m i0 j0) nid) (.done ())
      | _,_=>.fail
     | _=>.fail
    | _=>.fail
   | .rel u i j hv cv s r x off=>match Zjb FU (.data s x) off v with
    | some z=>.rdL u λ_ L0=>match L0 with
     | .mat _ _ _ _ _=>conv FU s z λy=>.rdL u λcv' L=>match L with
      | .mat ty ty2 s' m hv'=>match Nat.beq hv' hv,Nat.beq cv' cv with
       | true,true=>match Zbc s s' (r.set j y) with
        | some r'=>.wrL u (.mat ty ty2 s' (m.set i r') hv') (.done ())
        | none=>.fail
       | _,_=>.fail
      | _=>.fail
     | _=>.fail
    | none=>.fail
   | _=>.fail
  | _,_,_=>.fail
def onM (C:Cf) (o:Oper):Bool:=match o.dst with
 | some d=>ZEa C.mats d
 | none=>false
def onT (C:Cf) (o:Oper):Bool:=match o.dst with
 | some d=>ZEa C.mats (d+100000)
 | none=>false
def takeE (P:Program) (o:Oper) (nid:Nat) (t:TypeId) (p:V):Ev Unit:=match szA P t with
 | none=>.fail
 | some s=>match p,s.2 with
  | .rp u i hv cv e r,false=>.rdL u λcv' L=>match L with
   | .mat ty ty2 s' m hv'=>match Nat.beq hv' hv,Nat.beq cv' cv,Zbc e s' r with
    | true,true,some z=>.wrL u (.mid ty ty2 s' m hv' (.hol i)) (.new nid (.own ty2 s' z false) (ret o (.own nid)))
    | _,_,_=>.fail
   | _=>.fail
  | _,_=>.fail
def shift:V→Nat→Option V
 | .ptr u off,k=>some (.ptr u (off+k))
 | .vp t x off,k=>some (.vp t x (off+k))
 | .el u i cv t x off,k=>some (.el u i cv t x (off+k))
 | .rel u i j hv cv t r x off,k=>some (.rel u i j hv cv t r x (off+k))
 | _,_=>none
def live {ρ:Type} (v:V) (k:Ev ρ):Ev ρ:=match v with
 | .ptr u _=>.rdL u λ_ L=>match L with
  | .box _ _=>k
  | _=>.fail
 | .vp _ _ _=>k
 | .el u _ _ _ _ _=>.rdL u λ_ L=>match L with
  | .own _ _ _ _=>k
  | _=>.fail
 | .rel u _ _ hv _ _ _ _ _=>.rdL u λ_ L=>match L with
  | .mat _ _ _ _ hv'=>match Nat.beq hv' hv with
   | true=>k
   | false=>.fail
  | _=>.fail
 | _=>.fail
def ixA (P:Program) (o:Oper) (t:TypeId) (v:V) (j:Int):Ev Unit:=match P.underlying t with
 | some (.array n e)=>match P.info? e,decide (0≤j),decide (j<n) with
  | some i,true,true=>match shift v (j.toNat*i.size) with
   | some z=>live v (ret o z)
   | none=>.fail
  | _,_,_=>.fail
 | _=>.fail
def alts (P:Program) (o:Oper) (t:TypeId) (v:V) (j:Int):Nat→Nat→Ev Unit
 | 0,_=>.fail
 | m+1,k=>.alt (decide (j=(k:Int))) (ixA P o t v (k:Int)) (alts P o t v j m (k+1))
def altE (P:Program) (o:Oper) (t:TypeId) (v:V) (j:Int):Ev Unit:=match P.underlying t with
 | some (.array n _)=>alts P o t v j n 0
 | _=>.fail
def onA (C:Cf) (o:Oper):Bool:=match o.dst with
 | some d=>ZEa C.mats (d+200000)
 | none=>false
def ixV (C:Cf) (o:Oper) (t:TypeId) (v:V) (j:Int):Ev Unit:=match C.P.underlying t with
 | some (.array n e)=>match szA C.P e,v.isAgg,decide (0≤j),decide (j<n) with
  | some q,true,true,true=>match Zwa FU v (j.toNat*q.1) q.1 q.2 with
   | some z=>ret o z
   | none=>.fail
  | _,_,_,_=>.fail
 | _=>.fail
def altsV (C:Cf) (o:Oper) (t:TypeId) (v:V) (j:Int):Nat→Nat→Ev Unit
 | 0,_=>.fail
 | m+1,k=>.alt (decide (j=(k:Int))) (ixV C o t v (k:Int)) (altsV C o t v j m (k+1))
def altvE (C:Cf) (o:Oper) (t:TypeId) (v:V) (j:Int):Ev Unit:=match C.P.underlying t with
 | some (.array n _)=>altsV C o t v j n 0
 | _=>.fail
def ixE (P:Program) (o:Oper) (t:TypeId) (v:V) (j:Int):Ev Unit:=match ZGi P t with
 | none=>ixA P o t v j
 | some q=>match v with
  | .own u=>.rdL u λcv L=>match L with
   | .own _ s l _=>match Nat.beq q.2 s.n with
    | true=>.bind (idx l j) λy=>ret o (.el u j.toNat cv s y 0)
    | false=>.fail
   | .mat _ _ s m hv=>match Nat.beq q.2 1 with
    | true=>.bind (idx m j) λr=>ret o (.rp u j.toNat hv cv s r)
    | false=>.fail
   | .mid _ _ s m hv _=>match Nat.beq q.2 1 with
    | true=>.bind (idx m j) λr=>ret o (.rp u j.toNat hv cv s r)
    | false=>.fail
   | _=>.fail
  | .data (.slice s) l=>match Nat.beq q.2 s.n with
   | true=>.bind (idx l j) λy=>ret o (.vp s y 0)
   | false=>.fail
  | .data (.leaf 0) (n:Nat)=>match Nat.beq q.2 1 with
   | true=>.bind (idx (Zc 18446744073709551616 n) j) λy=>ret o (.vp (.int .u64) y 0)
   | false=>.fail
  | .data (.leaf 1) (n:Nat)=>match Nat.beq q.2 1 with
   | true=>.bind (idx (Zc 4294967296 n) j) λy=>ret o (.vp (.int .u32) y 0)
   | false=>.fail
  | .row u i hv cv s r=>.rdL u λcv' L=>match L with
   | .mat _ _ s' m hv'=>match Nat.beq hv' hv,Nat.beq cv' cv,Nat.beq q.2 s.n with
    | true,true,true=>.bind (idx r j) λy=>ret o (.rel u i j.toNat hv cv s r y 0)
    | true,false,true=>match ZSb s' s m with
     | some m'=>.bind (idx m' (i:Int)) λr'=>.bind (idx r' j) λy=>ret o (.rel u i j.toNat hv cv' s r' y 0)
     | none=>.fail
    | _,_,_=>.fail
   | _=>.fail
  | _=>.fail
def lenE {ρ:Type} (P:Program) (t:TypeId) (v:V) (k:Nat→Ev ρ):Ev ρ:=match v with
 | .data .str (s:List UInt8)=>match P.underlying t with
  | some .string=>k s.length
  | _=>.fail
 | v=>match ZGi P t with
  | none=>.fail
  | some _=>match v with
   | .own u=>.rdL u λ_ L=>match L with
    | .own _ _ l _=>k l.length
    | .mat _ _ _ m _=>k m.length
    | _=>.fail
   | .data (.slice _) l=>k l.length
   | .data (.leaf 0) (n:Nat)=>k (Zc 18446744073709551616 n).length
   | .data (.leaf 1) (n:Nat)=>k (Zc 4294967296 n).length
   | .row u _ hv _ _ r=>.rdL u λ_ L=>match L with
    | .mat _ _ _ _ hv'=>match Nat.beq hv' hv with
     | true=>k r.length
     | _=>.fail
    | _=>.fail
   | _=>.fail
def fldE {ρ:Type} (P:Program) (s:TypeId) (f:Nat) (v:V) (k:V→Ev ρ):Ev ρ:=match fldA P s f with
 | some h=>match shift v h with
  | some z=>live v (k z)
  | none=>.fail
 | none=>.fail
def Zpe {ρ:Type}:List Operand→(V→Ev ρ)→Ev ρ
 | [],k=>k .nl
 | x :: r,k=>opd x λv=>match v with
  | .tup _=>.fail
  | v=>Zpe r λc=>k (.cons v c)
def ZFd {ρ:Type}:(ts:List T)→V→(Zz ts→Ev ρ)→Ev ρ
 | [],.nl,k=>k ()
 | [t],.cons v .nl,k=>conv FU t v k
 | t :: u :: r,.cons v c,k=>conv FU t v λx=>ZFd (u :: r) c λy=>k (x,y)
 | _,_,_=>.fail
def convS {ρ:Type} (t:T):V→(List t.den→Ev ρ)→Ev ρ
 | .nl,k=>k []
 | .cons v c,k=>conv FU t v λx=>convS t c λl=>k (x :: l)
 | _,_=>.fail
def Zxd:(ts:List T)→Zz ts→V
 | [],_=>.nl
 | [t],x=>.cons (.data t x) .nl
 | t :: u :: r,x=>.cons (.data t x.1) (Zxd (u :: r) x.2)
def ZOd:V→V
 | .cons v .nl=>v
 | c=>.tup c
def appM (o:Oper) (nid:Nat) (q:EI) (p:Option Nat) (v':V):Ev Unit:=match v' with
 | .own u2=>.rdL u2 λ_ L2=>match L2 with
  | .mat ty' ty2' s' m' _=>match p with
   | none=>match Nat.beq q.e ty',Nat.beq q.sz 1 with
    | true,true=>.bind (Zw q.by_ ([]++m')) λ_=>.del u2 (.new nid (.mat ty' ty2' s' ([]++m') nid) (ret o (.own nid)))
    | _,_=>.fail
   | some u=>match Nat.beq u u2 with
    | true=>.fail
    | false=>.rdL u λ_ L=>match L with
     | .mat ty ty2 s m _=>match ZSb s' s m',Nat.beq ty ty',Nat.beq ty2 ty2',Nat.beq q.e ty,Nat.beq q.sz 1 with
      | some m2,true,true,true,true=>.bind (Zw q.by_ (m++m2)) λ_=>.del u2 (.del u (.new nid (.mat ty ty2 s (m++m2) nid) (ret o (.own nid))))
      | _,_,_,_,_=>.fail
     | _=>.fail
  | _=>.fail
 | _=>.fail
def appE (C:Cf) (o:Oper) (nid:Nat) (t:TypeId) (v v':V):Ev Unit:=match ZTf C.P t with
  | none=>.fail
  | some q=>match v with
    | .own u=>.rdL u λ_ L=>match L with
      | .own _ s _ _=>conv FU (.slice s) v' λy=>.rdL u λ_ L=>match L with
        | .own ty s' l false=>match Zbc s s' y,Nat.beq q.e ty,Nat.beq q.sz s'.n with
          | some y',true,true=>.bind (Zw q.by_ (l++y')) λ_=>.del u (.new nid (.own ty s' (l++y') false) (ret o (.own nid)))
          | _,_,_=>.fail
        | _=>.fail
      | .mat _ _ _ _ _=>appM o nid q (some u) v'
      | _=>.fail
    | .row u i hv cv s r=>conv FU (.slice s) v' λ(y:List s.den)=>.rdL u λcv' L=>match L with
      | .mat ty ty2 s' m hv'=>match Nat.beq hv' hv,Nat.beq cv' cv,Zbc s s' (r++y),Nat.beq q.e ty2,Nat.beq q.sz s'.n with
        | true,true,some z,true,true=>.bind (Zw q.by_ z) λ_=>.wrL u (.mid ty ty2 s' m hv' (.hol i)) (.new nid (.own ty2 s' z false) (ret o (.own nid)))
        | _,_,_,_,_=>.fail
      | _=>.fail
    | .nilS=>match onM C o with
     | true=>appM o nid q none v'
     | false=>match Zke C FU q.e with
      | some s=>match Nat.beq q.sz s.n with
        | true=>conv FU (.slice s) v' λ(y:List s.den)=>.bind (Zw q.by_ ([]++y)) λ_=>.new nid (.own q.e s ([]++y) false) (ret o (.own nid))
        | false=>.fail
      | none=>.fail
    | _=>.fail
def putF (P:Program) (s:TypeId):V→List (Nat×V)→Option V
 | z,[]=>some z
 | z,p :: r=>match fldT P s p.1 with
  | some h=>match szA P h.type with
   | some q=>match Nat.beq p.2.size q.1,p.2.fit,Zjb FU z h.offset p.2 with
    | true,true,some z'=>putF P s z' r
    | _,_,_=>none
   | none=>none
  | none=>none
def putA (n sz:Nat):V→List (Nat×V)→Option V
 | z,[]=>some z
 | z,p :: r=>match Nat.blt p.1 n,Nat.beq p.2.size sz,p.2.fit,Zjb FU z (p.1*sz) p.2 with
  | true,true,true,some z'=>putA n sz z' r
  | _,_,_,_=>none
def Z3k (P:Program):List Field→Bool
 | []=>true
 | h :: r=>match P.info? h.type with
  | some _=>Z3k P r
  | none=>false
def zipV:List (Nat×Operand)→V→List (Nat×V)
 | p :: r,.cons v c=>(p.1,v) :: zipV r c
 | _,_=>[]
def Zwg:V→V
 | .data t x=>match Zme t x with
  | some c=>.agg c
  | none=>.data t x
 | v=>v
def ZEk:Nat→List (Nat×Operand)→Bool
 | _,[]=>true
 | k,p :: r=>match Nat.beq p.1 k with
  | true=>ZEk (k+1) r
  | false=>false
def Zmh:Option Int→Int→Int
 | some h,_=>h
 | none,n=>n
def cutE (P:Program) (o:Oper) (t:TypeId) (v:V) (lo hi:Option Int):Ev Unit:=match v with
 | .data (.slice s) l=>match ZGi P t with
  | some q=>match Nat.beq q.2 s.n with
   | true=>.bind (Zca l (Zmh lo 0) (Zmh hi (l.length:Int))) λy=>ret o (.data (.slice s) y)
   | false=>.fail
  | none=>.fail
 | .data .str (l:List UInt8)=>match P.underlying t with
  | some .string=>.bind (Zca l (Zmh lo 0) (Zmh hi (l.length:Int))) λy=>ret o (.data .str y)
  | _=>.fail
 | _=>.fail
def optI {ρ:Type} (x:Option Operand) (k:Option Int→Ev ρ):Ev ρ:=match x with
 | none=>k none
 | some x=>opd x λv=>Z8a v λ_ i=>k (some i)
def insE (nid:Nat) (o:Oper) (c:ConI):V→Ev Unit
 | .cons a (.cons (.data (.int .i64) (i:Int)) (.cons (.own u2) .nl))=>.rdL u2 λ_ L2=>match L2 with
  | .own ty2 s2 l2 false=>match Nat.beq ty2 c.ty,Zbc s2 c.t l2 with
   | true,some [x]=>.del u2 (match a with
    | .own u=>.rdL u λ_ L=>match L with
     | .own ty s l false=>match Nat.beq ty c.ty,Zbc s c.t l with
      | true,some l'=>.bind (c.F l' i x) λz=>.del u (.new nid (.own c.ty c.t z false) (ret o (.own nid)))
      | _,_=>.fail
     | _=>.fail
    | .nilS=>.bind (c.F [] i x) λz=>.new nid (.own c.ty c.t z false) (ret o (.own nid))
    | _=>.fail)
   | _,_=>.fail
  | _=>.fail
 | _=>.fail
def arrE (C:Cf) (o:Oper) (t:TypeId) (s u off:Nat) (lo hi:Option Int):Ev Unit:=match Nat.beq off 0,lo,hi,C.P.underlying t with
 | true,none,none,some (.array n e)=>match Zke C FU e,szA C.P e,Nat.blt 0 n,Nat.ble n 1000 with
  | some a,some q,true,true=>match Nat.beq q.1 a.n with
   | true=>.rdL u λ_ L=>match L with
    | .box _ c=>conv FU (ZEf a n) c λx=>.rdL u λ_ L2=>match L2 with
     | .box _ _=>.del u (.wrS s (.vp (ZEf a n) x 0) (ret o (.data (.slice a) (ZPe a n x))))
     | _=>.fail
    | _=>.fail
   | false=>.fail
  | _,_,_,_=>.fail
 | _,_,_,_=>.fail
def delE (nid:Nat) (o:Oper) (c:ConD):V→Ev Unit
 | .cons (.own u) (.cons (.data (.int .i64) (i:Int)) (.cons (.data (.int .i64) (j:Int)) .nl))=>.rdL u λ_ L=>match L with
  | .own ty s l false=>match Nat.beq ty c.ty,Zbc s c.t l with
   | true,some l'=>.bind (c.F l' i j) λz=>.del u (.new nid (.own c.ty c.t z false) (ret o (.own nid)))
   | _,_=>.fail
  | _=>.fail
 | _=>.fail
def ZLj (C:Cf) (nid:Nat) (o:Oper) (f:FuncId) (args:V):Ev Unit:=match ZU C.cons f with
 | some c=>ZFd c.args args λp=>.bind (c.F p) λz=>ret o (ZOd (Zxd c.res z))
 | none=>match ZU C.owns f with
  | some c=>ZFd c.args args λp=>.bind (c.F p) λz=>.new nid (.own c.ty c.t z false) (ret o (.own nid))
  | none=>match ZU C.ins f with
   | some c=>insE nid o c args
   | none=>match ZU C.omats f with
    | some c=>ZFd c.args args λp=>.bind (c.F p) λz=>.new nid (.mat c.ty c.ty2 c.t z nid) (ret o (.own nid))
    | none=>match ZU C.dels f with
     | some c=>delE nid o c args
     | none=>match ZU C.pows f with
      | some c=>ZFd c.args args λp=>.bind (c.F p) λz=>.new nid (.own c.ty c.t z.1 false) (ret o (.tup (.cons (.own nid) (Zxd c.res z.2))))
      | none=>.fail
def Zrt:Operand→Bool
 | .const (.pointer none)=>true
 | _=>false
def Z2 (C:Cf) (nid:Nat) (o:Oper):Ev Unit:=match o.op with
  | .move x=>opd x (ret o)
  | .assign x=>match Zrt x with
    | true=>.new nid (.box 0 .undef) (.del nid (ret o (.ptr nid 0)))
    | false=>opd x (ret o)
  | .nilCheck x=>opd x λv=>match v with
    | .data (.ptr a) y=>ret o (.vp a y 0)
    | v=>live v (ret o v)
  | .pick (.tmp c) a b=>.test c (opd a (ret o)) (opd b (ret o))
  | .extract x i=>opd x λv=>match v with
    | .tup c=>match nthV c i with
      | some z=>ret o z
      | none=>.fail
    | _=>.fail
  | .alloc t=>match Zjk C t with
    | some z=>.new nid (.box t z) (ret o (.ptr nid 0))
    | none=>.fail
  | .box t x=>opd x λv=>match v.fit with
    | true=>.new nid (.box t v) (ret o (.ptr nid 0))
    | false=>.fail
  | .load t x=>opd x λp=>match onT C o with
    | true=>takeE C.P o nid t p
    | false=>ldE C.P t p (ret o)
  | .store t x y=>match o.dst with
    | none=>opd x λp=>opd y λv=>stE C.P nid t p v
    | some _=>.fail
  | .fieldAddr s x f=>opd x λv=>fldE C.P s f v (ret o)
  | .field s x f=>opd x λv=>match fldT C.P s f,v.isAgg with
    | some h,true=>match szA C.P h.type with
      | some q=>match Zwa FU v h.offset q.1 q.2 with
        | some z=>ret o z
        | none=>.fail
      | none=>.fail
    | _,_=>.fail
  | .indexAddr t x i=>opd x λv=>opd i λw=>Z8a w λ_ j=>match onA C o with
    | true=>altE C.P o t v j
    | false=>ixE C.P o t v j
  | .index t x i=>opd x λv=>opd i λw=>Z8a w λ_ j=>match v with
    | .data .str (l:List UInt8)=>match C.P.underlying t with
      | some .string=>.bind (idx l j) λ(y:UInt8)=>ret o (.data (.int .u8) ((y.toNat:Nat):Int))
      | _=>.fail
    | v=>match onA C o with
      | true=>altvE C o t v j
      | false=>ixV C o t v j
  | .binOp op t x y _=>opd x λv=>opd y λw=>binE C.P op t v w (ret o)
  | .unOp .not _ x=>opd x λv=>Zmm v λb=>ret o (.data .bool (!b))
  | .unOp .neg _ x=>opd x λv=>Z8a v λκ i=>ret o (.data (.int κ) (κ.wrap (-i)))
  | .convert s d x=>opd x λv=>match v,C.P.underlying s,C.P.underlying d with
    | .data (.int κ) i,some _,some (.int κ')=>match kEq κ κ' with
      | true=>ret o (.data (.int κ) i)
      | false=>ret o (.data (.int κ') (κ'.wrap i))
    | .data .str (l:List UInt8),some .string,some .string=>ret o (.data .str l)
    | _,_,_=>.fail
  | .makeFunc (.func f) first cap=>match first.toList with
    | []=>Zpe cap.toList λc=>ret o (.fn f c)
    | _=>.fail
  | .makeInterface t x=>opd x λv=>match v.fit with
    | true=>match C.P.underlying t with
      | some (.interface _)=>.fail
      | some _=>ret o (.ifc t v)
      | none=>.fail
    | false=>.fail
  | .makeSlice t l c=>opd l λv=>opd c λw=>Z8a v λ_ i=>Z8a w λ_ j=>match ZTf C.P t,o.dst with
    | some q,some d=>.bind (mk q.by_ i j) λ_=>match ZEa C.mats d with
      | true=>match ZTf C.P q.e,zSl q.z.cells.toList,Nat.beq q.sz 1 with
        | some q2,some _,true=>match Zke C FU q2.e with
          | some s=>match Nat.beq q2.sz s.n with
            | true=>.new nid (.mat q.e q2.e s (List.replicate i.toNat []) nid) (ret o (.own nid))
            | false=>.fail
          | none=>.fail
        | _,_,_=>.fail
      | false=>match Zke C FU q.e with
        | some s=>match ZLf s,zOK s q.z.cells.toList,Nat.beq q.sz s.n with
          | some z,some _,true=>.new nid (.own q.e s (List.replicate i.toNat z) false) (ret o (.own nid))
          | _,_,_=>.fail
        | none=>.fail
    | _,_=>.fail
  | .buildSlice t n ps=>match ZTf C.P t with
    | some q=>match onM C o with
     | true=>match n,ps.toList with
      | 1,[(0,x)]=>opd x λv=>match v,ZTf C.P q.e,zSl q.z.cells.toList with
        | .own u2,some q2,some _=>.rdL u2 λ_ L=>match L with
          | .own ty2 s l false=>match Nat.beq q2.e ty2,Nat.beq q2.sz s.n,Nat.beq q.sz 1 with
            | true,true,true=>.del u2 (.new nid (.mat q.e ty2 s [l] nid) (ret o (.own nid)))
            | _,_,_=>.fail
          | _=>.fail
        | _,_,_=>.fail
      | _,_=>.fail
     | false=>match Zke C FU q.e,ZEk 0 ps.toList,Nat.beq ps.toList.length n,Nat.ble (n*q.sz) 16777216 with
      | some s,true,true,true=>match Nat.beq q.sz s.n with
        | true=>Zpe (ps.toList.map (·.2)) λc=>convS s c λl=>.new nid (.own q.e s l false) (ret o (.own nid))
        | false=>.fail
      | _,_,_,_=>.fail
    | none=>.fail
  | .build t ps=>match Zjk C t,C.P.underlying t with
    | some z,some (.struct fs)=>match Z3k C.P fs.toList,(Zwg z).isAgg,z.isAgg with
      | true,true,true=>match ps.toList with
        | []=>ret o z
        | l=>Zpe (l.map (·.2)) λc=>match putF C.P t (Zwg z) (zipV l c) with
          | some z'=>ret o z'
          | none=>.fail
      | _,_,_=>.fail
    | some z,some (.array n e)=>match C.P.info? e,(Zwg z).isAgg,z.isAgg with
      | some i,true,true=>Zpe (ps.toList.map (·.2)) λc=>match putA n i.size (Zwg z) (zipV ps.toList c) with
        | some z'=>ret o z'
        | none=>.fail
      | _,_,_=>.fail
    | _,_=>.fail
  | .slice t x lo hi none=>optI lo λi=>optI hi λj=>opd x λv=>match v with
    | .own u=>.rdL u λ_ L=>match L with
      | .own _ s _ _=>conv FU (.slice s) v λl=>cutE C.P o t (.data (.slice s) l) i j
      | _=>.fail
    | .data (.leaf 0) (n:Nat)=>cutE C.P o t (.data (.slice (.int .u64)) (Zc 18446744073709551616 n)) i j
    | .data (.leaf 1) (n:Nat)=>cutE C.P o t (.data (.slice (.int .u32)) (Zc 4294967296 n)) i j
    | .ptr u off=>match x with
      | .tmp s=>arrE C o t s u off i j
      | _=>.fail
    | v=>cutE C.P o t v i j
  | .call c=>match c.callee with
    | .builtin .len=>match c.args.toList,c.argTypes.toList with
      | [x],[t]=>opd x λv=>lenE C.P t v λn=>ret o (.data (.int .i64) (n:Int))
      | _,_=>.fail
    | .builtin .append=>match c.args.toList,c.argTypes.toList with
      | [x,y],[t,t']=>match Nat.beq t t' with
        | true=>opd x λv=>opd y λw=>appE C o nid t v w
        | false=>.fail
      | _,_=>.fail
    | .builtin .max=>match c.args.toList with
      | [x,y]=>opd x λv=>opd y λw=>Z8a v λκ i=>Z8a w λκ' j=>match kEq κ κ' with
        | true=>ret o (.data (.int κ) (max i j:Int))
        | false=>.fail
      | [x,y,z]=>opd x λv=>opd y λw=>opd z λu=>Z8a v λκ i=>Z8a w λκ' j=>Z8a u λκ'' k=>match kEq κ κ',kEq κ κ'' with
        | true,true=>ret o (.data (.int κ) (max (max i j) k:Int))
        | _,_=>.fail
      | [x1,x2,x3,x4,x5,x6]=>opd x1 λv1=>opd x2 λv2=>opd x3 λv3=>opd x4 λv4=>opd x5 λv5=>opd x6 λv6=>Z8a v1 λκ i1=>Z8a v2 λκ2 i2=>Z8a v3 λκ3 i3=>Z8a v4 λκ4 i4=>Z8a v5 λκ5 i5=>Z8a v6 λκ6 i6=>match kEq κ κ2,kEq κ κ3,kEq κ κ4,kEq κ κ5,kEq κ κ6 with
        | true,true,true,true,true=>ret o (.data (.int κ) (max (max (max (max (max i1 i2) i3) i4) i5) i6:Int))
        | _,_,_,_,_=>.fail
      | _=>.fail
    | .builtin .min=>match c.args.toList with
      | [x,y]=>opd x λv=>opd y λw=>Z8a v λκ i=>Z8a w λκ' j=>match kEq κ κ' with
        | true=>ret o (.data (.int κ) (min i j:Int))
        | false=>.fail
      | _=>.fail
    | .value x=>opd x λfv=>Zpe c.args.toList λags=>match fv with
      | .fn f .nl=>ZLj C nid o f ags
      | _=>.fail
    | .invoke x m=>opd x λr=>Zpe c.args.toList λags=>match r with
      | .ifc t v=>match lkM C.meths t m with
        | some f=>ZLj C nid o f (.cons v ags)
        | none=>.fail
      | _=>.fail
    | _=>.fail
  | _=>.fail
def ZOg (o:Oper):Ev Unit:=match o.dst with
 | some d=>.wrS d .undef (.done ())
 | none=>.done ()
def gop (C:Cf) (ops:List Oper) (nid:Nat) (o:Oper):Ev Unit:=match o.guard with
 | none=>Z2 C nid o
 | some (j,w)=>match ops[j]? with
  | some q=>match q.dst with
   | some t=>.rdS t λx=>match x with
    | .undef=>ZOg o
    | .data .bool _=>match w with
     | true=>.test t (Z2 C nid o) (ZOg o)
     | false=>.test t (ZOg o) (Z2 C nid o)
    | _=>.fail
   | none=>.fail
  | none=>.fail
structure Fp where
 rs:Nat
 ws:Nat
 rl:Nat
 wl:Nat
def Fp.no:Fp:=⟨0,0,0,0⟩
def bit (m k:Nat):Nat:=Nat.lor m (Nat.pow 2 k)
def ZYb {ρ α:Type} (n:Nat):Ev ρ→Fr→Lo→Fp→(ρ→Fr→Lo→Fp→Option α)→Option α
 | .fail,_,_,_,_=>none
 | .done r,f,l,p,K=>K r f l p
 | .rdS t k,f,l,p,K=>match lkE f t with
  | some x=>ZYb n (k x.x) f l ⟨bit p.rs t,p.ws,p.rl,p.wl⟩ K
  | none=>none
 | .rdL u k,f,l,p,K=>match lkE l u with
  | some x=>ZYb n (k x.st x.x) f l ⟨p.rs,p.ws,bit p.rl u,p.wl⟩ K
  | none=>none
 | .wrS t x e,f,l,p,K=>ZYb n e (⟨t,n,x⟩ :: f) l ⟨p.rs,bit p.ws t,p.rl,p.wl⟩ K
 | .wrL u L e,f,l,p,K=>ZYb n e f (⟨u,n,L⟩ :: era l u) ⟨p.rs,p.ws,p.rl,bit p.wl u⟩ K
 | .new u L e,f,l,p,K=>match lkE l u with
  | none=>ZYb n e f (⟨u,n,L⟩ :: l) ⟨p.rs,p.ws,bit p.rl u,bit p.wl u⟩ K
  | some _=>none
 | .del u e,f,l,p,K=>ZYb n e f (era l u) ⟨p.rs,p.ws,p.rl,bit p.wl u⟩ K
 | .bind x k,f,l,p,K=>bnd x λy=>ZYb n (k y) f l p K
 | .test t e1 e2,f,l,p,K=>match lkE f t with
  | some ⟨_,s,.data .bool b⟩=>ifb b (ZYb n e1 (⟨t,s,.data .bool true⟩ :: f) l ⟨bit p.rs t,p.ws,p.rl,p.wl⟩ K) (ZYb n e2 (⟨t,s,.data .bool false⟩ :: f) l ⟨bit p.rs t,p.ws,p.rl,p.wl⟩ K)
  | _=>none
 | .alt b e1 e2,f,l,p,K=>ifb b (ZYb n e1 f l p K) (ZYb n e2 f l p K)
def Fp.free (p q:Fp):Bool:=Nat.beq (Nat.lor (Nat.lor (Nat.land p.ws (Nat.lor q.rs q.ws)) (Nat.land p.rs q.ws)) (Nat.lor (Nat.land p.wl (Nat.lor q.rl q.wl)) (Nat.land p.rl q.wl))) 0
def ZTc (done:List Nat):List Edge→Nat→Nat
 | [],m=>m
 | e :: r,m=>match Region.binds .any e with
  | true=>ZTc done r (Nat.lor (bit m e.on) (done.getD e.on 0))
  | false=>ZTc done r m
def Zib:List Oper→List Nat→List Nat
 | [],done=>done
 | o :: r,done=>Zib r (done++[ZTc done o.after.toList 0])
def chk1 (m:Nat) (q:Fp):List Fp→Nat→Bool
 | [],_=>true
 | p :: r,i=>match Nat.testBit m i with
  | true=>chk1 m q r (i+1)
  | false=>match p.free q with
   | true=>chk1 m q r (i+1)
   | false=>false
def Zze:List Fp→List Nat→List Fp→Bool
 | _,_,[]=>true
 | bef,m :: ms,q :: qs=>match chk1 m q bef 0 with
  | true=>Zze (bef++[q]) ms qs
  | false=>false
 | _,[],_ :: _=>false
def Zgi (i:Nat):List Edge→Bool
 | []=>true
 | e :: r=>match Region.binds .any e with
  | true=>match Nat.blt e.on i with
   | true=>Zgi i r
   | false=>false
  | false=>Zgi i r
def Zre:Nat→List Oper→Bool
 | _,[]=>true
 | i,o :: r=>match Zgi i o.after.toList with
  | true=>Zre (i+1) r
  | false=>false
def sm:Nat→(Nat→Rat)→Rat
 | 0,_=>0
 | n+1,f=>sm n f+f n
theorem ZV {n:Nat} {f g:Nat→Rat} (h:∀ j,j<n→f j=g j):sm n f=sm n g:=by
 induction n with
 | zero=>rfl
 | succ n ih=>simp only[sm];rw[ih λj hj=>h j (by omega),h n (by omega)]
theorem ZMh (n:Nat) (f g:Nat→Rat):sm n (λj=>f j+g j)=sm n f+sm n g:=by
 induction n with
 | zero=>show (0:Rat)=0+0;grind
 | succ n ih=>simp only[sm];rw[ih];grind
theorem Zac (n:Nat) (c:Rat) (f:Nat→Rat):sm n (λj=>c*f j)=c*sm n f:=by
 induction n with
 | zero=>show (0:Rat)=c*0;grind
 | succ n ih=>simp only[sm];rw[ih];grind
theorem Zea {n:Nat} {f:Nat→Rat} (h:∀ j,j<n→f j=0):sm n f=0:=by
 induction n with
 | zero=>rfl
 | succ n ih=>simp only[sm];rw[ih λj hj=>h j (by omega),h n (by omega)];grind
theorem Z2a {n k:Nat} {f:Nat→Rat} (hk:k<n) (h:∀ j,j<n→j≠k→f j=0):sm n f=f k:=by
 induction n with
 | zero=>omega
 | succ n ih =>
  simp only[sm];by_cases e:k=n
  ·subst e;rw[Zea λj hj=>h j (by omega) (by omega)];grind
  ·rw[ih (by omega) λj hj hne=>h j (by omega) hne,h n (by omega) (by omega)];grind
theorem Zph (n:Nat) (f g:Nat→Rat):sm n (λj=>f j-g j)=sm n f-sm n g:=by
 induction n with
 | zero=>show (0:Rat)=0-0;grind
 | succ n ih=>simp only[sm];rw[ih];grind
theorem Z0n (n m:Nat) (f:Nat→Nat→Rat):sm n (λi=>sm m (f i))=sm m (λj=>sm n λi=>f i j):=by
 induction n with
 | zero=>exact (Zea λj hj=>rfl).symm
 | succ n ih =>
  simp only[sm];rw[ih,← ZMh]
abbrev Mx:=Nat→Nat→Rat
structure Tb where
 a:Mx
 b:Nat→Rat
 z:Nat→Rat
 v:Rat
 bs:Nat→Nat
 fr:Nat→Nat
namespace Tb
def sol (T:Tb) (m n:Nat) (x:Nat→Rat):Prop:=∀ i,i<m→x (T.bs i)+sm n (λk=>T.a i k*x (T.fr k))=T.b i
def obj (T:Tb) (n:Nat) (x:Nat→Rat):Rat:=T.v+sm n (λk=>T.z k*x (T.fr k))
def piv (T:Tb) (r c:Nat):Tb :=
 { a:=λi k=>if i=r then (if k=c then 1 / T.a r c else T.a r k*(1 / T.a r c)) else (if k=c then -(T.a i c*(1 / T.a r c)) else T.a i k-T.a i c*(T.a r k*(1 / T.a r c))),b:=λi=>if i=r then T.b r*(1 / T.a r c) else T.b i-T.a i c*(T.b r*(1 / T.a r c)),z:=λk=>if k=c then -(T.z c*(1 / T.a r c)) else T.z k-T.z c*(T.a r k*(1 / T.a r c)),v:=T.v+T.z c*(T.b r*(1 / T.a r c)),bs:=λi=>if i=r then T.fr c else T.bs i,fr:=λk=>if k=c then T.bs r else T.fr k}
end Tb
theorem sm_at {n c:Nat} (h:c<n) (f:Nat→Rat):sm n f=f c+sm n (λk=>if k=c then 0 else f k):=by
 have:sm n f=sm n (λk=>(if k=c then f k else 0)+(if k=c then 0 else f k)):=ZV λk _=>by split <;> grind
 rw[this,ZMh,Z2a h (λj _ hne=>iN hne),iP rfl]
namespace Tb
variable {T T0:Tb} {m n N r c:Nat} {x:Nat→Rat}
theorem Zsn (hc:c<n) (q q':Nat→Rat) (e:Rat) (x:Nat→Rat) (h1:q' c=e) (f:Rat) (h2:∀ k,k≠c→q' k=q k-f*T.a r k) :
  sm n (λk=>q' k*x ((T.piv r c).fr k))=sm n (λk=>q k*x (T.fr k))-f*sm n (λk=>T.a r k*x (T.fr k))+e*x (T.bs r)-(q c-f*T.a r c)*x (T.fr c):=by
 rw[sm_at hc (λk=>q' k*x ((T.piv r c).fr k)),sm_at hc (λk=>q k*x (T.fr k)),sm_at hc (λk=>T.a r k*x (T.fr k))];have e1:(T.piv r c).fr c=T.bs r:=iP rfl;have e2:sm n (λk=>if k=c then 0 else q' k*x ((T.piv r c).fr k))=sm n (λk=>(if k=c then 0 else q k*x (T.fr k))-f*(if k=c then 0 else T.a r k*x (T.fr k))):=ZV λk _=>by
  by_cases hk:k=c
  ·rw[iP hk,iP hk,iP hk];grind
  ·rw[iN hk,iN hk,iN hk,h2 k hk,show (T.piv r c).fr k=T.fr k from iN hk];grind
 rw[e2,Zph,Zac,e1,h1];grind
theorem row_r (hc:c<n) (x:Nat→Rat) (h0:T.a r c≠0):sm n (λk=>(T.piv r c).a r k*x ((T.piv r c).fr k))=(1 / T.a r c)*(sm n (λk=>T.a r k*x (T.fr k))+x (T.bs r))-x (T.fr c):=by
 have:=Zsn (T:=T) (r:=r) (n:=n) hc (λk=>0) ((T.piv r c).a r) (1 / T.a r c) x (by simp[piv]) (-(1 / T.a r c)) (λk hk=>by simp only[piv,iP,iN hk];grind);rw[this,Zea (f:=λk=>0*x (T.fr k)) (λj _=>Rat.zero_mul _)];grind
theorem row_i (hc:c<n) (x:Nat→Rat) {i:Nat} (hi:i≠r) (h0:T.a r c≠0):sm n (λk=>(T.piv r c).a i k*x ((T.piv r c).fr k))=sm n (λk=>T.a i k*x (T.fr k))-T.a i c*(1 / T.a r c)*(sm n (λk=>T.a r k*x (T.fr k))+x (T.bs r)):=by
 have:=Zsn (T:=T) (r:=r) (n:=n) hc (T.a i) ((T.piv r c).a i) (-(T.a i c*(1 / T.a r c))) x (by simp[piv,hi]) (T.a i c*(1 / T.a r c)) (λk hk=>by simp only[piv,iN hi,iN hk];grind);rw[this];grind
theorem row_z (hc:c<n) (x:Nat→Rat) (h0:T.a r c≠0):sm n (λk=>(T.piv r c).z k*x ((T.piv r c).fr k))=sm n (λk=>T.z k*x (T.fr k))-T.z c*(1 / T.a r c)*(sm n (λk=>T.a r k*x (T.fr k))+x (T.bs r)):=by
 have:=Zsn (T:=T) (r:=r) (n:=n) hc T.z (T.piv r c).z (-(T.z c*(1 / T.a r c))) x (by simp[piv]) (T.z c*(1 / T.a r c)) (λk hk=>by simp only[piv,iN hk];grind);rw[this];grind
theorem piv_sol (hr:r<m) (hc:c<n) (h0:T.a r c≠0) (x:Nat→Rat):(T.piv r c).sol m n x↔T.sol m n x:=by
 have br:(T.piv r c).bs r=T.fr c:=iP rfl;have bbr:(T.piv r c).b r=T.b r*(1 / T.a r c):=iP rfl;constructor
 ·intro h;have hR:=h r hr;rw[row_r hc x h0,br,bbr]at hR;have hR':x (T.bs r)+sm n (λk=>T.a r k*x (T.fr k))=T.b r:=by grind
  intro i hi;by_cases e:i=r
  ·subst e;exact hR'
  ·have hI:=h i hi;rw[row_i hc x e h0,show (T.piv r c).bs i=T.bs i from iN e,show (T.piv r c).b i=T.b i-T.a i c*(T.b r*(1 / T.a r c)) from iN e]at hI;grind
 ·intro h;have hR:=h r hr;intro i hi;by_cases e:i=r
  ·subst e;rw[row_r hc x h0,br,bbr];grind
  ·have hI:=h i hi;rw[row_i hc x e h0,show (T.piv r c).bs i=T.bs i from iN e,show (T.piv r c).b i=T.b i-T.a i c*(T.b r*(1 / T.a r c)) from iN e];grind
theorem piv_obj (hr:r<m) (hc:c<n) (h0:T.a r c≠0) (h:T.sol m n x):(T.piv r c).obj n x=T.obj n x:=by
 have hR:=h r hr;unfold obj;rw[row_z hc x h0,show (T.piv r c).v=T.v+T.z c*(T.b r*(1 / T.a r c)) from rfl];grind
structure eqv (T T0:Tb) (m n:Nat):Prop where
 sol:∀ x,T.sol m n x↔T0.sol m n x
 obj:∀ x,T0.sol m n x→T.obj n x=T0.obj n x
theorem eqv.refl:T.eqv T m n:=⟨λ_=>Iff.rfl,λ_ _=>rfl⟩
theorem eqv.trans {T1:Tb} (h:T.eqv T1 m n) (k:T1.eqv T0 m n):T.eqv T0 m n:=⟨λx=>(h.sol x).trans (k.sol x),λx hx=>(h.obj x ((k.sol x).2 hx)).trans (k.obj x hx)⟩
theorem eqv.symm (h:T.eqv T0 m n):T0.eqv T m n:=⟨λx=>(h.sol x).symm,λx hx=>(h.obj x ((h.sol x).1 hx)).symm⟩
theorem ZWj (hr:r<m) (hc:c<n) (h0:T.a r c≠0):(T.piv r c).eqv T m n:=⟨piv_sol hr hc h0,λ_ hx=>piv_obj hr hc h0 hx⟩
structure arr (T:Tb) (m n N:Nat):Prop where
 bl:∀ i,i<m→T.bs i<N
 fl:∀ k,k<n→T.fr k<N
 bi:∀ i j,i<m→j<m→T.bs i=T.bs j→i=j
 fi:∀ i j,i<n→j<n→T.fr i=T.fr j→i=j
 d:∀ i k,i<m→k<n→T.bs i≠T.fr k
 cov:∀ u,u<N→(∃ i,i<m∧T.bs i=u) ∨ ∃ k,k<n∧T.fr k=u
theorem ZAd (T:Tb) (r c i:Nat):(T.piv r c).bs i=if i=r then T.fr c else T.bs i:=rfl
theorem Z1d (T:Tb) (r c i:Nat):(T.piv r c).fr i=if i=c then T.bs r else T.fr i:=rfl
theorem arr.piv (h:T.arr m n N) (hr:r<m) (hc:c<n):(T.piv r c).arr m n N:=by
 refine⟨λi hi=>?_,λk hk=>?_,λi j hi hj e=>?_,λi j hi hj e=>?_,λi k hi hk e=>?_,λu hu=>?_⟩
 ·rw[ZAd];split
  ·exact h.fl c hc
  ·exact h.bl i hi
 ·rw[Z1d];split
  ·exact h.bl r hr
  ·exact h.fl k hk
 ·rw[ZAd,ZAd]at e;split at e <;> split at e
  ·omega
  ·exact absurd e.symm (h.d j c hj hc)
  ·exact absurd e (h.d i c hi hc)
  ·exact h.bi i j hi hj e
 ·rw[Z1d,Z1d]at e;split at e <;> split at e
  ·omega
  ·exact absurd e (h.d r j hr hj)
  ·exact absurd e.symm (h.d r i hr hi)
  ·exact h.fi i j hi hj e
 ·rw[ZAd,Z1d]at e;split at e <;> split at e
  ·exact h.d r c hr hc e.symm
  ·rename_i h1 h2;exact h2 (h.fi c k hc hk e).symm
  ·rename_i h1 h2;exact h1 (h.bi i r hi hr e)
  ·exact h.d i k hi hk e
 ·rcases h.cov u hu with ⟨i,hi,e⟩ | ⟨k,hk,e⟩
  ·by_cases hir:i=r
   ·exact .inr ⟨c,hc,by rw[Z1d,iP rfl,← hir];exact e⟩
   ·exact .inl ⟨i,hi,by rw[ZAd,iN hir];exact e⟩
  ·by_cases hkc:k=c
   ·exact .inl ⟨r,hr,by rw[ZAd,iP rfl,← hkc];exact e⟩
   ·exact .inr ⟨k,hk,by rw[Z1d,iN hkc];exact e⟩
theorem arr.pt (h:T.arr m n N) (y:Nat→Rat):∃ x,T.sol m n x∧(∀ k,k<n→x (T.fr k)=y k)∧∀ i,i<m→x (T.bs i)=T.b i-sm n (λk=>T.a i k*y k):=by
 let x:Nat→Rat:=λu=>sm m (λi=>if T.bs i=u then T.b i-sm n (λk=>T.a i k*y k) else 0)+sm n (λk=>if T.fr k=u then y k else 0)
 have hf:∀ k,k<n→x (T.fr k)=y k:=λk hk=>by
  show sm m _+sm n _=_;rw[Zea (n:=m) λi hi=>iN (h.d i k hi hk),Z2a hk λj hj hne=>iN λe=>hne (h.fi j k hj hk e),iP rfl];exact Rat.zero_add _
 have hb:∀ i,i<m→x (T.bs i)=T.b i-sm n (λk=>T.a i k*y k):=λi hi=>by
  show sm m _+sm n _=_;rw[Zea (n:=n) λk hk=>iN λe=>h.d i k hi hk e.symm,Z2a hi λj hj hne=>iN λe=>hne (h.bi j i hj hi e),iP rfl];exact Rat.add_zero _
 clear_value x
 refine⟨x,λi hi=>?_,hf,hb⟩;have e:sm n (λk=>T.a i k*x (T.fr k))=sm n (λk=>T.a i k*y k):=ZV λk hk=>by rw[hf k hk]
 rw[hb i hi,e];grind
theorem arr.uni (h:T.arr m n N) {x x':Nat→Rat} (hx:T.sol m n x) (hx':T.sol m n x') (hf:∀ k,k<n→x (T.fr k)=x' (T.fr k)):∀ u,u<N→x u=x' u:=λu hu=>by
 rcases h.cov u hu with ⟨i,hi,rfl⟩ | ⟨k,hk,rfl⟩
 ·have h1:=hx i hi
  have h2:=hx' i hi
  rw[ZV (g:=λk=>T.a i k*x' (T.fr k)) λk hk=>by rw[hf k hk]]at h1
  grind
 ·exact hf k hk
end Tb
theorem Zwh {n:Nat} {f:Nat→Rat} (h:∀ k,k<n→0≤f k):0≤sm n f:=by
 induction n with
 | zero=>exact Rat.le_refl
 | succ n ih =>
  have h1:=ih λk hk=>h k (by omega);have h2:=h n (by omega);show 0≤sm n f+f n;grind
theorem sm_pos {n:Nat} {f:Nat→Rat} (h:0<sm n f):∃ k,k<n∧0<f k:=by
 induction n with
 | zero=>exact absurd h (by show ¬ (0:Rat)<0;grind)
 | succ n ih =>
  by_cases hn:0<f n
  ·exact⟨n,by omega,hn⟩
  ·have h:0<sm n f+f n:=h;obtain⟨k,hk,h1⟩:=ih (by grind);exact⟨k,by omega,h1⟩
noncomputable def msk (p:Nat→Prop):Nat→Nat
 | 0=>0
 | n+1=>msk p n+(open Classical in if p n then 2^n else 0)
theorem Zwo (p:Nat→Prop) (n:Nat):msk p n<2^n:=by
 induction n with
 | zero=>exact Nat.one_pos
 | succ n ih =>
  simp only[msk];split <;> omega
theorem msk_inj {p q:Nat→Prop}:∀ {n:Nat},msk p n=msk q n→∀ u,u<n→(p u↔q u):=by
 intro n
 induction n with
 | zero=>intro _ u hu;omega
 | succ n ih =>
  intro h u hu;have h1:=Zwo p n;have h2:=Zwo q n;simp only[msk]at h;have key:(p n↔q n)∧msk p n=msk q n:=by
   split at h <;> split at h
   ·rename_i a b;exact⟨⟨λ_=>b,λ_=>a⟩,by omega⟩
   ·omega
   ·omega
   ·rename_i a b;exact⟨⟨λe=>absurd e a,λe=>absurd e b⟩,by omega⟩
  by_cases e:u=n
  ·subst e;exact key.1
  ·exact ih key.2 u (by omega)
theorem Z2l:∀ (M:Nat) (f:Nat→Nat),(∀ i,i≤M→f i<M)→∃ i j,i<j∧j≤M∧f i=f j
 | 0,f,h=>absurd (h 0 (Nat.le_refl 0)) (Nat.not_lt_zero _)
 | M+1,f,h=>by
  by_cases hc:∃ i,i≤M∧f i=f (M+1)
  ·obtain⟨i,hi,e⟩:=hc
   exact⟨i,M+1,by omega,Nat.le_refl _,e⟩
  · -- take the place of the last one away
   obtain⟨i,j,h1,h2,h3⟩:=Z2l M (λi=>if f i=M then f (M+1) else f i) (λi hi=>by
    show (if f i=M then f (M+1) else f i)<M
    have hi1:=h i (by omega)
    have hl:=h (M+1) (Nat.le_refl _)
    have hne:f i≠f (M+1):=λe=>hc ⟨i,hi,e⟩
    split <;> omega)
   refine⟨i,j,h1,by omega,?_⟩
   have hi:f i≠f (M+1):=λe=>hc ⟨i,by omega,e⟩
   have hj:f j≠f (M+1):=λe=>hc ⟨j,h2,e⟩
   have h3:(if f i=M then f (M+1) else f i)=(if f j=M then f (M+1) else f j):=h3
   split at h3 <;> split at h3
   ·omega
   ·exact absurd h3.symm hj
   ·exact absurd h3 hi
   ·exact h3
theorem most {p:Nat→Prop} {N:Nat} (h:∃ u,u<N∧p u):∃ t,t<N∧p t∧∀ u,u<N→p u→u≤t:=by
 induction N with
 | zero=>obtain⟨u,hu,_⟩:=h;omega
 | succ N ih =>
  by_cases hp:p N
  ·exact⟨N,by omega,hp,λu hu _=>by omega⟩
  ·obtain⟨u,hu,h1⟩:=h;have hne:u≠N:=λe=>hp (e ▸ h1);obtain⟨t,h2,h3,h4⟩:=ih ⟨u,by omega,h1⟩;refine⟨t,by omega,h3,λw hw h5=>?_⟩;have hne:w≠N:=λe=>hp (e ▸ h5);exact h4 w (by omega) h5
namespace Tb
def inB (T:Tb) (m:Nat) (u:Nat):Prop:=∃ i,i<m∧T.bs i=u
structure ent (T:Tb) (n c:Nat):Prop where
 lt:c<n
 pos:0<T.z c
 least:∀ k,k<n→0<T.z k→T.fr c≤T.fr k
structure lea (T:Tb) (m c lst r:Nat):Prop where
 lt:r<m
 pos:0<T.a r c
 least:∀ i,i<m→0<T.a i c→T.b r / T.a r c≤T.b i / T.a i c
 ties:∀ i,i<m→0<T.a i c→T.b i / T.a i c=T.b r / T.a r c→T.bs r≠lst→T.bs r≤T.bs i
def fea (T:Tb) (m:Nat):Prop:=∀ i,i<m→0≤T.b i
variable {T T0:Tb} {m n N r c lst:Nat}
theorem Zpt {x y:Rat} (hx:0≤x) (hy:0<y):0≤x*(1 / y):=by
 have:0<1 / y:=by
  rw[Rat.div_def,Rat.one_mul];exact Rat.inv_pos.2 hy
 exact Rat.mul_nonneg hx (Rat.le_of_lt this)
theorem piv_fea (h:T.fea m) (k:T.lea m c lst r):(T.piv r c).fea m:=by
 intro i hi;have hr:=Zpt (h r k.lt) k.pos;show 0≤if i=r then T.b r*(1 / T.a r c) else T.b i-T.a i c*(T.b r*(1 / T.a r c));split
 ·exact hr
 ·by_cases hp:0<T.a i c
  ·have h1:=k.least i hi hp;have h2:T.b r*(1 / T.a r c)≤T.b i / T.a i c:=by
    rw[show T.b r*(1 / T.a r c)=T.b r / T.a r c by grind];exact h1
   have h3:T.a i c*(T.b r*(1 / T.a r c))≤T.a i c*(T.b i / T.a i c):=Rat.mul_le_mul_of_nonneg_left h2 (Rat.le_of_lt hp);have h4:T.a i c*(T.b i / T.a i c)=T.b i:=by grind
   grind
  ·have h1:0≤(-T.a i c)*(T.b r*(1 / T.a r c)):=Rat.mul_nonneg (by grind) hr;have h2:=h i hi;grind
theorem inB_piv (hr:r<m) (ha:T.arr m n N) (u:Nat):(T.piv r c).inB m u↔u=T.fr c∨(T.inB m u∧u≠T.bs r):=by
 constructor
 ·rintro⟨i,hi,e⟩;rw[ZAd]at e;split at e
  ·exact .inl e.symm
  ·rename_i hne;refine .inr ⟨⟨i,hi,e⟩,λe2=>hne (ha.bi i r hi hr (e.trans e2))⟩
 ·rintro (e | ⟨⟨i,hi,e⟩,hne⟩)
  ·exact⟨r,hr,by rw[ZAd,iP rfl,e]⟩
  ·refine⟨i,hi,?_⟩;rw[ZAd,iN λe2=>hne (by rw[← e,e2])];exact e
end Tb
namespace Tb
structure Steps (st:Nat→Tb) (rr cc:Nat→Nat) (m n N lst K:Nat):Prop where
 step:∀ k,k<K→st (k+1)=(st k).piv (rr k) (cc k)
 ent:∀ k,k<K→(st k).ent n (cc k)
 lea:∀ k,k<K→(st k).lea m (cc k) lst (rr k)
 arr0:(st 0).arr m n N
 fea0:(st 0).fea m
 nl:∀ k,k<K→∀ j,j<n→(st k).fr j≠lst
variable {st:Nat→Tb} {rr cc:Nat→Nat} {m n N lst K:Nat}
theorem Steps.arr (h:Steps st rr cc m n N lst K):∀ k,k≤K→(st k).arr m n N
 | 0,_=>h.arr0
 | k+1,hk=>by rw[h.step k (by omega)];exact (h.arr k (by omega)).piv (h.lea k (by omega)).lt (h.ent k (by omega)).lt
theorem Steps.fea (h:Steps st rr cc m n N lst K):∀ k,k≤K→(st k).fea m
 | 0,_=>h.fea0
 | k+1,hk=>by rw[h.step k (by omega)];exact piv_fea (h.fea k (by omega)) (h.lea k (by omega))
theorem Steps.nz (h:Steps st rr cc m n N lst K) {k:Nat} (hk:k<K):(st k).a (rr k) (cc k)≠0:=λe=>by
 have:=(h.lea k hk).pos
 rw[e]at this
 exact Rat.lt_irrefl this
theorem Steps.eqv (h:Steps st rr cc m n N lst K):∀ k,k≤K→(st k).eqv (st 0) m n
 | 0,_=>eqv.refl
 | k+1,hk=>by
  have h1:=ZWj (m:=m) (h.lea k (by omega)).lt (h.ent k (by omega)).lt (h.nz (k:=k) (by omega))
  rw[← h.step k (by omega)]at h1
  exact h1.trans (h.eqv k (by omega))
theorem Steps.gain (h:Steps st rr cc m n N lst K) {k:Nat} (hk:k<K):0≤(st k).z (cc k)*((st k).b (rr k)*(1 / (st k).a (rr k) (cc k))) :=
 Rat.mul_nonneg (Rat.le_of_lt (h.ent k hk).pos) (Zpt (h.fea k (by omega) _ (h.lea k hk).lt) (h.lea k hk).pos)
theorem Steps.v (h:Steps st rr cc m n N lst K) {k:Nat} (hk:k<K):(st (k+1)).v=(st k).v+(st k).z (cc k)*((st k).b (rr k)*(1 / (st k).a (rr k) (cc k))):=by rw[h.step k hk];rfl
theorem Steps.mono (h:Steps st rr cc m n N lst K) {k:Nat}:∀ {l:Nat},k≤l→l≤K→(st k).v≤(st l).v
 | 0,h1,_=>by rw[show k=0 by omega];exact Rat.le_refl
 | l+1,h1,h2=>by
  by_cases e:k=l+1
  ·rw[e];exact Rat.le_refl
  ·have h3:=h.mono (k:=k) (l:=l) (by omega) (by omega)
   have h4:=h.v (k:=l) (by omega)
   have h5:=h.gain (k:=l) (by omega)
   grind
theorem Z4i {T:Tb} {x:Nat→Rat} (h:∀ k,k<n→x (T.fr k)=0):T.obj n x=T.v:=by
 unfold obj;rw[Zea λk hk=>by rw[h k hk];exact Rat.mul_zero _];exact Rat.add_zero _
theorem Steps.once (h:Steps st rr cc m n N lst K) {i j:Nat} (hij:i<j) (hj:j≤K):¬ ∀ u,u<N→((st i).inB m u↔(st j).inB m u):=by
 intro hsame;have A:=h.arr;have EV:∀ k,k≤K→∀ l,l≤K→(st k).eqv (st l) m n:=λk hk l hl=>(h.eqv k hk).trans (h.eqv l hl).symm;have free:∀ k,k≤K→∀ l,l<n→¬ (st k).inB m ((st k).fr l):=λk hk l hl ⟨a,ha,e⟩=>(A k hk).d a l ha hl e;obtain⟨x0,hx0,hf0,hb0⟩:=(A i (by omega)).pt λ_=>0;have solx:∀ k,k≤K→(st k).sol m n x0:=λk hk=>((EV k hk i (by omega)).sol x0).2 hx0;have hfj:∀ k,k<n→x0 ((st j).fr k)=0:=λk hk=>by
  have hlt:=(A j hj).fl k hk;rcases (A i (by omega)).cov _ hlt with ⟨a,ha,e⟩ | ⟨l,hl,e⟩
  ·exact absurd ((hsame _ hlt).1 ⟨a,ha,e⟩) (free j hj k hk)
  ·rw[← e];exact hf0 l hl
 have hv:(st j).v=(st i).v:=by
  have:=(EV j hj i (by omega)).obj x0 hx0;rw[Z4i hfj,Z4i hf0]at this;exact this
 have hb:∀ k,i≤k→k<j→(st k).b (rr k)=0:=λk h1 h2=>by
  have h3:=h.mono (k:=i) (l:=k) h1 (by omega);have h4:=h.mono (k:=k+1) (l:=j) (by omega) hj;have h5:=h.v (k:=k) (by omega);have h6:=h.gain (k:=k) (by omega);have h7:(st k).z (cc k)*((st k).b (rr k)*(1 / (st k).a (rr k) (cc k)))=0:=by grind
  have h8:=(h.ent k (by omega)).pos;have h9:=h.nz (k:=k) (by omega);grind
 have hx:∀ k,i≤k→k≤j→∀ l,l<n→x0 ((st k).fr l)=0:=by
  intro k h1
  induction k with
  | zero=>intro _ l hl;rw[show 0=i by omega];exact hf0 l hl
  | succ k ih =>
   intro h2 l hl;by_cases e:i=k+1
   ·rw[← e];exact hf0 l hl
   ·have ih:=ih (by omega) (by omega);rw[h.step k (by omega),Z1d];split
    ·have hs:=solx k (by omega) _ (h.lea k (by omega)).lt;rw[hb k (by omega) (by omega),Zea λq hq=>by rw[ih q hq];exact Rat.mul_zero _]at hs;grind
    ·exact ih l hl
 have hbx:∀ k,i≤k→k≤j→∀ a,a<m→x0 ((st k).bs a)=(st k).b a:=λk h1 h2 a ha=>by
  have hs:=solx k (by omega) a ha;rw[Zea λq hq=>by rw[hx k h1 h2 q hq];exact Rat.mul_zero _]at hs;grind
 let Ent:Nat→Prop:=λu=>∃ k,i≤k∧k<j∧u=(st k).fr (cc k)
 let Lev:Nat→Prop:=λu=>∃ k,i≤k∧k<j∧u=(st k).bs (rr k)
 have stp:∀ k,k<K→∀ u,(st (k+1)).inB m u↔u=(st k).fr (cc k)∨((st k).inB m u∧u≠(st k).bs (rr k)):=λk hk u=>by
  rw[h.step k hk];exact inB_piv (h.lea k hk).lt (A k (by omega)) u
 have hup:∀ u,¬ Ent u→∀ k l,i≤k→k≤l→l≤j→(st l).inB m u→(st k).inB m u:=by
  intro u hu k l hk
  induction l with
  | zero=>intro h1 _ h3;rw[show k=0 by omega];exact h3
  | succ l ih =>
   intro h1 h2 h3;by_cases e:k=l+1
   ·rw[e];exact h3
   ·rcases (stp l (by omega) u).1 h3 with h4 | ⟨h4,_⟩
    ·exact absurd ⟨l,by omega,by omega,h4⟩ hu
    ·exact ih (by omega) (by omega) h4
 have hdn:∀ u,¬ Lev u→∀ k l,i≤k→k≤l→l≤j→(st k).inB m u→(st l).inB m u:=by
  intro u hu k l hk
  induction l with
  | zero=>intro h1 _ h3;rw[show 0=k by omega];exact h3
  | succ l ih =>
   intro h1 h2 h3;by_cases e:k=l+1
   ·rw[← e];exact h3
   ·exact (stp l (by omega) u).2 (.inr ⟨ih (by omega) (by omega) h3,λe=>hu ⟨l,by omega,by omega,e⟩⟩)
 have const:∀ u,u<N→¬ Ent u→∀ k l,i≤k→k≤j→i≤l→l≤j→(st k).inB m u→(st l).inB m u:=λu huN hu k l h1 h2 h3 h4 h5=>by
  have h6:=hup u hu i k (Nat.le_refl i) h1 h2 h5;exact hup u hu l j h3 h4 (Nat.le_refl j) ((hsame u huN).1 h6)
 have LE:∀ u,u<N→Ent u→Lev u:=λu huN hu=>Classical.byContradiction λhn=>by
  obtain⟨k,h1,h2,e⟩:=hu;have h3:(st (k+1)).inB m u:=(stp k (by omega) u).2 (.inl e);have h4:=hdn u hn (k+1) j (by omega) (by omega) (Nat.le_refl j) h3;have h5:=hdn u hn i k (Nat.le_refl i) h1 (by omega) ((hsame u huN).2 h4);rw[e]at h5;exact free k (by omega) _ (h.ent k (by omega)).lt h5
 obtain⟨t,htN,htE,hmax⟩:=most (p:=Ent) (N:=N) ⟨_,(A i (by omega)).fl _ (h.ent i (by omega)).lt,i,Nat.le_refl i,hij,rfl⟩;obtain⟨p,hp1,hp2,hpt⟩:=LE t htN htE;obtain⟨q,hq1,hq2,hqt⟩:=htE;have entp:=h.ent p (by omega);have leap:=h.lea p (by omega);have entq:=h.ent q (by omega);have Ap:=A p (by omega);have Aq:=A q (by omega);obtain⟨x1,hx1,hf1,hb1⟩:=Ap.pt λk=>if k=cc p then 1 else 0;have o1:(st p).obj n x1=(st p).v+(st p).z (cc p):=by
  unfold obj;rw[Z2a entp.lt λk hk hne=>by rw[hf1 k hk,iN hne];exact Rat.mul_zero _,hf1 _ entp.lt,iP rfl,Rat.mul_one]
 have o2:(st p).obj n x1=(st q).obj n x1:=(EV p (by omega) q (by omega)).obj x1 (((EV p (by omega) q (by omega)).sol x1).1 hx1);have vv:(st p).v=(st q).v:=by
  have a1:=h.mono (k:=i) (l:=p) hp1 (by omega);have a2:=h.mono (k:=p) (l:=j) (by omega) hj;have a3:=h.mono (k:=i) (l:=q) hq1 (by omega);have a4:=h.mono (k:=q) (l:=j) (by omega) hj;grind
 have hs:0<sm n λk=>(st q).z k*x1 ((st q).fr k):=by
  have:=entp.pos;have e:(st q).obj n x1=(st q).v+sm n λk=>(st q).z k*x1 ((st q).fr k):=rfl;grind
 obtain⟨k,hk,hpos⟩:=sm_pos hs;have huN:=Aq.fl k hk;have nB:=free q (by omega) k hk;rcases Ap.cov _ huN with ⟨a,ha,e⟩ | ⟨l,hl,e⟩
 · -- basic in D
  have huE:Ent ((st q).fr k):=Classical.byContradiction λhn=>nB (const _ huN hn p q hp1 (by omega) hq1 (by omega) ⟨a,ha,e⟩);have hut:=hmax _ huN huE;have hba:(st p).b a=0:=by rw[← hbx p hp1 (by omega) a ha,e];exact hx q hq1 (by omega) k hk
  have hbr:=hb p hp1 hp2;have hval:x1 ((st q).fr k) = - (st p).a a (cc p):=by
   rw[← e,hb1 a ha,hba,Z2a entp.lt λc hc hne=>by show _*(if c=cc p then (1:Rat) else 0)=0;rw[iN hne];exact Rat.mul_zero _];show 0-_*(if cc p=cc p then (1:Rat) else 0)=_;rw[iP rfl];grind
  rw[hval]at hpos;by_cases hz:0<(st q).z k
  ·have h1:=entq.least k hk hz;have h2:(st q).fr k=t:=by omega
   have h3:a=rr p:=Ap.bi a (rr p) ha leap.lt (by rw[e,h2,hpt]);have h4:=leap.pos;rw[← h3]at h4;have h5:0<(st q).z k*(st p).a a (cc p):=Rat.mul_pos hz h4;grind
  ·have hne:(st q).fr k≠t:=λe2=>by
    have:k=cc q:=Aq.fi k (cc q) hk entq.lt (by rw[e2,hqt]);rw[this]at hz;exact hz entq.pos
   have hpa:0<(st p).a a (cc p):=by
    by_cases h1:0<(st p).a a (cc p)
    ·exact h1
    ·have h3:0≤(-(st q).z k)*(-(st p).a a (cc p)):=Rat.mul_nonneg (by grind) (by grind);grind
   have hti:=leap.ties a ha hpa (by rw[hba,hbr];grind) (by rw[← hpt,hqt];exact h.nl q (by omega) _ entq.lt);rw[← hpt,e]at hti;omega
 · -- free in D
  have hval:x1 ((st q).fr k)=if l=cc p then 1 else 0:=by rw[← e];exact hf1 l hl
  rw[hval]at hpos;by_cases hlc:l=cc p
  ·rw[iP hlc,Rat.mul_one]at hpos;have huE:Ent ((st q).fr k):=⟨p,hp1,hp2,by rw[← e,hlc]⟩;have hut:=hmax _ huN huE;have h1:=entq.least k hk hpos;have h2:(st q).fr k=t:=by omega
   exact Ap.d (rr p) l leap.lt hl (by rw[e,h2,hpt])
  ·rw[iN hlc,Rat.mul_zero]at hpos;exact Rat.lt_irrefl hpos
theorem Steps.bound (h:Steps st rr cc m n N lst K):K<2^N:=by
 rcases Nat.lt_or_ge K (2^N) with hlt | hge
 ·exact hlt
 ·obtain⟨i,j,h1,h2,h3⟩:=Z2l (2^N) (λk=>msk (λu=>(st k).inB m u) N) λi _=>Zwo _ _;exact absurd (msk_inj h3) (h.once h1 (by omega))
end Tb
section
variable {R n:Nat} {M0 M:Mx} {piv:List Nat}
def kv (M:Mx) (piv:List Nat) (j:Nat):Nat→Rat:=λd=>if d=j then 1 else match piv.idxOf? d with
 | some i=>- M i j
 | none=>0
end
section
variable {R n:Nat} {N M:Mx} {b:Nat→Rat} {piv:List Nat}
def pv (M:Mx) (piv:List Nat) (n:Nat):Nat→Rat:=λd=>match piv.idxOf? d with
 | some i=>M i n
 | none=>0
end
end Go.Eng
namespace Go.Eng
open Go.RowKit
inductive Pl where
 | sl (s:Nat)
 | fld (p:Pl) (off:Nat)
inductive Vr where
 | s (t:Nat) (c:CT)
 | l (p:Pl) (c:CT)
def Vr.ct:Vr→CT
 | .s _ c=>c
 | .l _ c=>c
def ctL:List CT→CT
 | []=>.nl
 | [v]=>.one v
 | v :: w :: r=>.cons v (ctL (w :: r))
inductive Kd where
 | norm | exit (id:Nat) | ret
structure Js where
 keep:List Nat
 drop:List Pl
 vs:List Vr
structure Jn where
 head:Js
 outs:List (Kd×Js)
inductive Ann where
 | no
 | two (a b:Ann)
 | cut (c:Jn) (a:Ann)
 | unroll (k:Nat) (a:Ann)
 | sel (i:Nat) (a b:Ann)
 | lend (us:List Nat) (bs:List (Nat×T)) (nb fl keep:List Nat) (a:Ann)
structure Kt (α:Type) where
 norm:Fr→Lo→Nat→Option α
 exit:Nat→Fr→Lo→Nat→Option α
 ret:V→Lo→Nat→Option α
def Ann.fst:Ann→Ann
 | .two a _=>a
 | _=>.no
def Ann.snd:Ann→Ann
 | .two _ b=>b
 | _=>.no
def idV:V→Option Nat
 | .own u=>some u
 | .ptr u 0=>some u
 | _=>none
def Zxc (f:Fr) (l:Lo):Pl→Option Nat
 | .sl s=>match lkE f s with
  | some v=>idV v.x
  | none=>none
 | .fld p off=>match Zxc f l p with
  | some u=>match lkE l u with
   | some ⟨_,_,.box _ c⟩=>match Zwa FU c off 1 false with
    | some v=>idV v
    | none=>none
   | _=>none
  | none=>none
def idsOf (f:Fr) (l:Lo):List Pl→Option (List Nat)
 | []=>some []
 | p :: r=>match Zxc f l p,idsOf f l r with
  | some u,some us=>some (u :: us)
  | _,_=>none
def Zja {ρ:Type}:Nat→(c:CT)→V→(c.den→Ev ρ)→Ev ρ
 | 0,_,_,_=>.fail
 | g+1,c,v,K=>match c,K with
  | .dat t,K=>conv FU t v K
  | .own ty t,K=>match v with
   | .own u=>.rdL u λ_ L=>match L with
    | .own ty' t' xs false=>match Nat.beq ty ty',Zbc t' t xs with
     | true,some ys=>.del u (K ys)
     | _,_=>.fail
    | _=>.fail
   | .nilS=>K []
   | _=>.fail
  | .mat ty ty2 t,K=>match v with
   | .own u=>.rdL u λ_ L=>match L with
    | .mat ty' ty2' t' m _=>match Nat.beq ty ty',Nat.beq ty2 ty2',T.cast (.slice (.slice t')) (.slice (.slice t)) m with
     | true,true,some m'=>.del u (K m')
     | _,_,_=>.fail
    | _=>.fail
   | .nilS=>K []
   | _=>.fail
  | .nl,K=>match v with
   | .nl=>K ()
   | _=>.fail
  | .one a,K=>match v with
   | .cons x .nl=>Zja g a x K
   | _=>.fail
  | .cons a b,K=>match v with
   | .cons x y=>Zja g a x λp=>Zja g b y λq=>K (p,q)
   | _=>.fail
  | .agg c,K=>match v with
   | .agg x=>Zja g c x K
   | _=>.fail
  | .box ty c,K=>match v with
   | .ptr u 0=>.rdL u λ_ L=>match L with
    | .box ty' x=>match Nat.beq ty ty' with
     | true=>.del u (Zja g c x K)
     | false=>.fail
    | _=>.fail
   | _=>.fail
def Zl:(c:CT)→c.den→Nat→V×Lo×Nat
 | .dat t,x,n=>(.data t x,[],n)
 | .own ty t,x,n=>(.own n,[⟨n,n,.own ty t x false⟩],n+1)
 | .mat ty ty2 t,x,n=>(.own n,[⟨n,n,.mat ty ty2 t x n⟩],n+1)
 | .nl,_,n=>(.nl,[],n)
 | .one a,x,n=>match Zl a x n with
  | (v,l,m)=>(.cons v .nl,l,m)
 | .cons a b,x,n=>match Zl a x.1 n with
  | (v,l,m)=>match Zl b x.2 m with
   | (v',l',m')=>(.cons v v',l++l',m')
 | .agg c,x,n=>match Zl c x n with
  | (v,l,m)=>(.agg v,l,m)
 | .box ty c,x,n=>match Zl c x (n+1) with
  | (v,l,m)=>(.ptr n 0,⟨n,n,.box ty v⟩ :: l,m)
def Z3a (l:Lo) (u:Nat):Nat:=match lkE l u with
 | some ⟨_,_,.mat _ _ _ _ hv⟩=>hv
 | _=>0
def Z8c {ρ:Type} (h:Nat) (c:CT) (u:Nat) (K:c.den→Ev ρ):Ev ρ:=match c,K with
 | .agg (.mat ty ty2 t),K=>.rdL u λ_ L=>match L with
  | .mat ty' ty2' t' m hv=>match Nat.beq ty ty',Nat.beq ty2 ty2',T.cast (.slice (.slice t')) (.slice (.slice t)) m,Nat.beq hv h with
   | true,true,some m',true=>.del u (K m')
   | _,_,_,_=>.fail
  | _=>.fail
 | .own ty t,K=>.rdL u λ_ L=>match L with
  | .own ty' t' xs false=>match Nat.beq ty ty',Zbc t' t xs with
   | true,some ys=>.del u (K ys)
   | _,_=>.fail
  | _=>.fail
 | .mat ty ty2 t,K=>.rdL u λ_ L=>match L with
  | .mat ty' ty2' t' m _=>match Nat.beq ty ty',Nat.beq ty2 ty2',T.cast (.slice (.slice t')) (.slice (.slice t)) m with
   | true,true,some m'=>.del u (K m')
   | _,_,_=>.fail
  | _=>.fail
 | .box ty c,K=>.rdL u λ_ L=>match L with
  | .box ty' x=>match Nat.beq ty ty' with
   | true=>.del u (Zja FU c x K)
   | false=>.fail
  | _=>.fail
 | _,_=>.fail
def Z4e {ρ:Type} (f0:Fr) (l0:Lo):(vs:List Vr)→((ctL (vs.map Vr.ct)).den→Ev ρ)→Ev ρ
 | [],K=>K ()
 | [.s t c],K=>.rdS t λv=>Zja FU c v K
 | [.l p c],K=>match Zxc f0 l0 p with
  | some u=>Z8c (Z3a l0 u) c u K
  | none=>.fail
 | .s t c :: w :: r,K=>.rdS t λv=>Zja FU c v λx=>Z4e f0 l0 (w :: r) λy=>K (x,y)
 | .l p c :: w :: r,K=>match Zxc f0 l0 p with
  | some u=>Z8c (Z3a l0 u) c u λx=>Z4e f0 l0 (w :: r) λy=>K (x,y)
  | none=>.fail
def Zfb (f:Fr):List Nat→Fr
 | []=>[]
 | s :: r=>match lkE f s with
  | some e=>e :: Zfb f r
  | none=>Zfb f r
def Zha (h:Nat) (c:CT) (x:c.den) (u n:Nat):Lo×Nat:=match c,x with
 | .agg (.mat ty ty2 t),x=>([⟨u,n,.mat ty ty2 t x h⟩],n+1)
 | .own ty t,x=>([⟨u,n,.own ty t x false⟩],n+1)
 | .mat ty ty2 t,x=>([⟨u,n,.mat ty ty2 t x n⟩],n+1)
 | .box ty c,x=>match Zl c x (n+1) with
  | (v,l,m)=>(⟨u,n,.box ty v⟩ :: l,m)
 | _,_=>([],n)
def Z4b (f0:Fr) (l0:Lo):(vs:List Vr)→(ctL (vs.map Vr.ct)).den→Nat→Fr×Lo×Nat
 | [],_,n=>([],[],n)
 | [.s t c],x,n=>match Zl c x (n+1) with
  | (v,l,m)=>([⟨t,n,v⟩],l,m)
 | [.l p c],x,n=>match Zxc f0 l0 p with
  | some u=>match Zha (Z3a l0 u) c x u n with
   | (l,m)=>([],l,m)
  | none=>([],[],n)
 | .s t c :: w :: r,x,n=>match Zl c x.1 (n+1) with
  | (v,l,m)=>match Z4b f0 l0 (w :: r) x.2 m with
   | (f',l',m')=>(⟨t,n,v⟩ :: f',l++l',m')
 | .l p c :: w :: r,x,n=>match Zxc f0 l0 p with
  | some u=>match Zha (Z3a l0 u) c x.1 u n with
   | (l,m)=>match Z4b f0 l0 (w :: r) x.2 m with
    | (f',l',m')=>(f',l++l',m')
  | none=>([],[],n)
def goneP (f0:Fr) (l0:Lo):List Pl→List Nat
 | p :: r=>match Zxc f0 l0 p with
  | some u=>u :: goneP f0 l0 r
  | none=>goneP f0 l0 r
 | []=>[]
def ZEd (f0:Fr) (l0:Lo):List Vr→List Nat
 | .s t _ :: r=>match Zxc f0 l0 (.sl t) with
  | some u=>u :: ZEd f0 l0 r
  | none=>ZEd f0 l0 r
 | .l p _ :: r=>match Zxc f0 l0 p with
  | some u=>u :: ZEd f0 l0 r
  | none=>ZEd f0 l0 r
 | []=>[]
def gone (f0:Fr) (l0:Lo) (ps:List Pl) (vs:List Vr):List Nat:=goneP f0 l0 ps++ZEd f0 l0 vs
def idsV:V→List Nat→List Nat
 | .own u,r=>u :: r
 | .row u _ _ _ _ _,r=>u :: r
 | .ptr u _,r=>u :: r
 | .el u _ _ _ _ _,r=>u :: r
 | .rp u _ _ _ _ _,r=>u :: r
 | .rel u _ _ _ _ _ _ _ _,r=>u :: r
 | .cons a b,r=>idsV a (idsV b r)
 | .agg c,r=>idsV c r
 | .tup c,r=>idsV c r
 | .fn _ c,r=>idsV c r
 | _,r=>r
def idsF:Fr→List Nat
 | []=>[]
 | e :: r=>idsV e.x (idsF r)
def Zaj (l:Lo):Nat→List Nat→List Nat→List Nat
 | 0,_,a=>a
 | _,[],a=>a
 | g+1,u :: r,a=>match ZEa a u with
  | true=>Zaj l g r a
  | false=>match lkE l u with
   | some ⟨_,_,.box _ c⟩=>Zaj l g (idsV c r) (u :: a)
   | _=>Zaj l g r (u :: a)
def Zbe (b:Nat) (rs us:List Nat):Lo→Lo
 | []=>[]
 | e :: r=>match ZEa us e.k with
  | true=>Zbe b rs us r
  | false=>match Nat.ble b e.k with
   | false=>e :: Zbe b rs us r
   | true=>match ZEa rs e.k with
    | true=>e :: Zbe b rs us r
    | false=>Zbe b rs us r
def stayL (b:Nat) (f0:Fr) (l0:Lo) (j:Js) (vs:List Vr):Lo:=Zbe b (Zaj l0 50 (idsF (Zfb f0 j.keep)) []) (gone f0 l0 j.drop vs) l0
def ZJi (n:Nat) (f:Fr):List Nat→Bool
 | []=>true
 | s :: r=>match lkE f s with
  | some e=>match Nat.ble n e.st with
   | true=>false
   | false=>ZJi n f r
  | none=>false
def ZYi (n:Nat) (l:Lo):Lo→Bool
 | []=>true
 | e :: r=>match lkE l e.k with
  | some e'=>match Nat.ble n e'.st with
   | true=>false
   | false=>ZYi n l r
  | none=>false
def build {α:Type} (b:Nat) (f0:Fr) (l0:Lo) (j:Js) (x:(ctL (j.vs.map Vr.ct)).den) (n:Nat) (K:Fr→Lo→Nat→α):α:=match Z4b f0 l0 j.vs x n with
 | (f',l',m)=>K (f'++Zfb f0 j.keep) (l'++stayL b f0 l0 j j.vs) m
def kdEq:Kd→Kd→Bool
 | .norm,.norm=>true
 | .ret,.ret=>true
 | .exit i,.exit j=>Nat.beq i j
 | _,_=>false
abbrev jT (j:Js):Type:=(ctL (j.vs.map Vr.ct)).den
def sumT:List (Kd×Js)→Type
 | []=>Empty
 | [o]=>jT o.2
 | o :: p :: r=>jT o.2 ⊕ sumT (p :: r)
def ZVe {α:Type} (b n0 n:Nat) (f0:Fr) (l0:Lo) (f:Fr) (l:Lo) (j:Js) (K:jT j→Option α):Option α :=
 ZQa n (Z4e f0 l0 j.vs λx=>.done x) f l λx _ l'=>match ZJi n0 f j.keep,ZYi n0 l' (stayL b f0 l0 j j.vs) with
  | true,true=>K x
  | _,_=>none
def Z5a (n:Nat):Nat→V→Fr
 | k,.cons v c=>⟨k,n,v⟩ :: Z5a n (k+1) c
 | _,_=>[]
def lenV:V→Nat
 | .cons _ c=>lenV c+1
 | _=>0
def ordS:Nat→List Vr→Option Nat
 | k,[]=>some k
 | k,.s t _ :: r=>match Nat.beq t k with
  | true=>ordS (k+1) r
  | false=>none
 | k,.l _ _ :: r=>ordS k r
def Zoi {α:Type} (b n0 n:Nat) (f0:Fr) (l0:Lo) (c:V) (l:Lo) (j:Js) (K:jT j→Option α):Option α:=match j.keep,ordS 1000 j.vs with
 | [],some k=>match Nat.beq (1000+lenV c) k with
  | true=>ZVe b n0 (n+1) f0 l0 (Z5a n 1000 c) l j K
  | false=>none
 | _,_=>none
def ZYk (f:Fr):Nat→Nat→Option V
 | 0,_=>some .nl
 | g+1,t=>match lkE f t,ZYk f g (t+1) with
  | some ⟨_,_,.tup _⟩,_=>none
  | some e,some c=>some (.cons e.x c)
  | _,_=>none
def ZXc {α:Type} (b n0 n:Nat) (f0:Fr) (l0:Lo) (kd:Kd) (c:V) (f:Fr) (l:Lo):(os:List (Kd×Js))→(sumT os→Option α)→Option α
 | [],_=>none
 | [o],K=>match kdEq o.1 kd with
  | true=>match kd with
   | .ret=>Zoi b n0 n f0 l0 c l o.2 K
   | _=>ZVe b n0 n f0 l0 f l o.2 K
  | false=>none
 | o :: p :: r,K=>match kdEq o.1 kd with
  | true=>match kd with
   | .ret=>Zoi b n0 n f0 l0 c l o.2 λx=>K (.inl x)
   | _=>ZVe b n0 n f0 l0 f l o.2 λx=>K (.inl x)
  | false=>ZXc b n0 n f0 l0 kd c f l (p :: r) λx=>K (.inr x)
def retK {α:Type} (vs:List Vr) (K:V→Lo→Nat→Option α) (f:Fr) (l:Lo) (m:Nat):Option α:=match ordS 1000 vs with
 | some k=>match ZYk f (k-1000) 1000 with
  | some c=>K c l m
  | none=>none
 | none=>none
def Z0g {α:Type} (b:Nat) (f0:Fr) (l0:Lo) (n:Nat) (K:Kt α) (o:Kd×Js) (x:jT o.2):Option α:=match o.1 with
 | .norm=>build b f0 l0 o.2 x n K.norm
 | .exit i=>build b f0 l0 o.2 x n (K.exit i)
 | .ret=>build b f0 l0 o.2 x n (retK o.2.vs K.ret)
def arms {α:Type} (b:Nat) (f0:Fr) (l0:Lo) (n:Nat) (K:Kt α):(os:List (Kd×Js))→sumT os→Option α
 | [],_=>none
 | [o],x=>Z0g b f0 l0 n K o x
 | o :: p :: r,x=>match x with
  | .inl y=>Z0g b f0 l0 n K o y
  | .inr y=>arms b f0 l0 n K (p :: r) y
abbrev Go (α:Type):=Ann→Fr→Lo→Nat→Kt α→Option α
def Zhh:T→Bool
 | .int _ | .bool | .flt _ | .str=>true
 | .one a=>Zhh a
 | .pair a b=>match Zhh a with
  | true=>Zhh b
  | false=>false
 | _=>false
def ZIc:V→Bool
 | .data t _=>Zhh t
 | .undef | .nilS | .nl=>true
 | .cons a b=>match ZIc a with
  | true=>ZIc b
  | false=>false
 | .agg c=>ZIc c
 | .tup c=>ZIc c
 | _=>false
def ZCi {ρ:Type} (e:Ev ρ):List Nat→Ev ρ
 | []=>e
 | u :: r=>.rdL u λ_ L=>match L with
  | .own ty t xs false=>.wrL u (.own ty t xs true) (ZCi e r)
  | .own _ _ _ true=>ZCi e r
  | _=>.fail
def Zal {ρ:Type} (e:Ev ρ):List (Nat×T)→Ev ρ
 | []=>e
 | p :: r=>.rdS p.1 λv=>match v with
  | .ptr u off=>conv FU (.ptr p.2) (.ptr u off) λy=>.wrS p.1 (.vp p.2 y 0) (Zal e r)
  | _=>.fail
def ZHg (d:Nat):Nat→V
 | 0=>.nl
 | k+1=>.cons (.own d) (ZHg d k)
def nbL (n n':Nat) (f':Fr) (l' l:Lo):List Nat→Option (Fr×Lo×Nat)
 | []=>some ([],l,n')
 | [s]=>match lkE f' s with
  | some ⟨_,_,.ptr u 0⟩=>match lkE l' u,lkE l u,Nat.blt n u with
   | some ⟨_,_,.box ty c⟩,none,true=>match c.isAgg with
    | true=>some ([⟨s,n',.ptr u 0⟩],⟨u,n',.box ty (.agg (ZHg n c.size))⟩ :: l,n'+1)
    | false=>none
   | _,_,_=>none
  | _=>none
 | _=>none
def Zqb (us:List Nat):Lo→Lo
 | []=>[]
 | e :: r=>match ZEa us e.k with
  | true=>e :: Zqb us r
  | false=>Zqb us r
def Ztc (f:Fr) (r:Fr):List Nat→Fr
 | []=>r
 | s :: ss=>match lkE f s with
  | some e=>match ZIc e.x with
   | true=>e :: Ztc f r ss
   | false=>Ztc f r ss
  | none=>Ztc f r ss
def ZGj {α:Type} (b:Nat) (ks:List Nat) (ann:Ann) (f:Fr) (l:Lo) (n:Nat) (K:Kt α) (g:List Nat→(β:Type)→Go β):Option α:=match ann with
 | .cut j a=>bnd (g ks (sumT j.outs) a f l n
   {
    norm:=λf' l' n'=>ZXc b n n' f l .norm .nl f' l' j.outs some,
    exit:=λi f' l' n'=>ZXc b n n' f l (.exit i) .nl f' l' j.outs some,
    ret:=λc l' n'=>ZXc b n n' f l .ret c [] l' j.outs some }) λx=>arms b f l n K j.outs x
 | a=>g ks α a f l n K
def Z5g {α:Type} (b:Nat) (ks:List Nat) (ann:Ann) (f:Fr) (l:Lo) (n:Nat) (K:Kt α) (g:List Nat→(β:Type)→Go β):Option α:=match ann with
 | .lend us bs nb fl keep a=>match idsOf f l (us.map Pl.sl) with
  | some ids=>ZQa n (Zal (ZCi (.done ()) ids) bs) f l λ_ f1 l1=>ZGj b (keep++ks) a f1 (Zqb ids l1) (n+1)
    {
     norm:=λf' l' n'=>match nbL n n' f' l' l nb with
      | some (fb,lb,m)=>K.norm (fb++Ztc f' (Zfb f keep) fl) lb m
      | none=>none,
     exit:=λi f' _ n'=>K.exit i (Ztc f' (Zfb f keep) fl) l n',
     ret:=λc _ n'=>match ZIc c with
      | true=>K.ret c l n'
      | false=>none } g
  | none=>none
 | a=>ZGj b ks a f l n K g
def rounds {α:Type} (g:(β:Type)→Go β) (a:Ann):Nat→Fr→Lo→Nat→Kt α→Option α
 | 0,_,_,_,_=>none
 | k+1,f,l,n,K=>g α a f l n { K with norm:=λf l n=>rounds g a k f l n K }
def loopI {α:Type} (b:Nat) (ann:Ann) (f:Fr) (l:Lo) (n:Nat) (K:Kt α) (g:(β:Type)→Go β):Option α:=match ann with
 | .cut j a=>ZVe b n n f l f l j.head λz=>bnd (Zg (λs=>build b f l j.head s n λf2 l2 m=>g (jT j.head ⊕ sumT j.outs) a f2 l2 m
    {
     norm:=λf' l' n'=>ZVe b n n' f l f' l' j.head λx=>some (.inl x),
     exit:=λi f' l' n'=>ZXc b n n' f l (.exit i) .nl f' l' j.outs λx=>some (.inr x),
     ret:=λc l' n'=>ZXc b n n' f l .ret c [] l' j.outs λx=>some (.inr x) }) Zi z)
    λx=>arms b f l n K j.outs x
 | .unroll k a=>rounds g a k f l n K
 | _=>none
def opdV (f:Fr) (x:Operand):Option V:=match x with
 | .tmp t=>match lkE f t with
  | some e=>some e.x
  | none=>none
 | .const c=>Zsk c
 | .func g=>some (.fn g .nl)
 | .global _=>none
def ZTj (f:Fr):List Operand→Option V
 | []=>some .nl
 | x :: r=>match opdV f x,ZTj f r with
  | some (.tup _),_=>none
  | some v,some c=>some (.cons v c)
  | _,_=>none
abbrev CallF:=(α:Type)→FuncId→V→Lo→Nat→(V→Lo→Nat→Option α)→Option α
def byCon (C:Cf) (o:Oper) (g:FuncId):Bool:=match o.dst with
 | some d=>match ZEa C.mats (d+300000) with
  | true=>false
  | false=>match ZU C.pows g,ZU C.cons g,ZU C.owns g,ZU C.ins g,ZU C.omats g,ZU C.dels g with
   | none,none,none,none,none,none=>false
   | _,_,_,_,_,_=>true
 | none=>true
def ZZj (C:Cf) (f:Fr) (o:Oper):Option (FuncId×V):=match o.op with
 | .call c=>match c.callee with
  | .value x=>match opdV f x with
   | some (.fn g cap)=>match byCon C o g with
    | true=>none
    | false=>match ZTj f c.args.toList with
     | some ags=>some (g,appV ags cap)
     | none=>none
   | _=>none
  | _=>none
 | _=>none
def inl1 {α:Type} (cf:CallF) (o:Oper) (g:FuncId) (ags:V) (f:Fr) (l:Lo) (n:Nat) (K:Fr→Lo→Nat→Option α):Option α:=match o.dst with
 | some d=>cf α g ags l (n+1) λr l' m=>K (⟨d,n,ZOd r⟩ :: f) l' m
 | none=>none
def Zqk {α:Type} (o:Oper) (f:Fr) (l:Lo) (n:Nat) (K:Fr→Lo→Nat→Option α):Option α:=ZQa n (ZOg o) f l λ_ f' l'=>K f' l' (n+1)
def inlG {α:Type} (cf:CallF) (ops:List Oper) (o:Oper) (g:FuncId) (ags:V) (f:Fr) (l:Lo) (n:Nat) (K:Fr→Lo→Nat→Option α):Option α:=match o.guard with
 | none=>inl1 cf o g ags f l n K
 | some (j,w)=>match ops[j]? with
  | some q=>match q.dst with
   | some t=>match lkE f t with
    | some ⟨_,s,.data .bool b⟩=>match w with
     | true=>ifb b (inl1 cf o g ags (⟨t,s,.data .bool true⟩ :: f) l n K) (Zqk o (⟨t,s,.data .bool false⟩ :: f) l n K)
     | false=>ifb b (Zqk o (⟨t,s,.data .bool true⟩ :: f) l n K) (inl1 cf o g ags (⟨t,s,.data .bool false⟩ :: f) l n K)
    | some ⟨_,_,.undef⟩=>Zqk o f l n K
    | _=>none
   | none=>none
  | none=>none
def iops {α:Type} (C:Cf) (cf:CallF) (ops:List Oper):List Oper→Fr→Lo→Nat→(Fr→Lo→Nat→Option α)→Option α
 | [],f,l,n,K=>K f l n
 | o :: r,f,l,n,K=>match ZZj C f o with
  | none=>ZQa n (gop C ops n o) f l λ_ f l=>iops C cf ops r f l (n+1) K
  | some (g,ags)=>inlG cf ops o g ags f l n λf l n=>iops C cf ops r f l n K
def Z6f {α:Type} (C:Cf) (ops:List Oper):List Oper→Fr→Lo→Nat→(Fr→Lo→Nat→List Fp→Option α)→Option α
 | [],f,l,n,K=>K f l n []
 | o :: r,f,l,n,K=>ZYb n (gop C ops n o) f l Fp.no λ_ f l p=>Z6f C ops r f l (n+1) λf l n ps=>K f l n (p :: ps)
def ZMu (o:Oper):Bool:=match o.op,o.guard with
 | .call c,none=>match c.callee with
  | .value (.tmp _)=>true
  | _=>false
 | _,_=>false
def allB (m:Nat):Nat→Bool
 | 0=>true
 | k+1=>match Nat.testBit m k with
  | true=>allB m k
  | false=>false
def ZEj (ops:List Oper):Option Oper:=match ops.getLast? with
 | none=>none
 | some o=>match ZMu o with
  | false=>none
  | true=>match allB (ZTc (Zib ops.dropLast []) o.after.toList 0) ops.dropLast.length with
   | true=>some o
   | false=>none
def ZBh (K:Nat) (ks:List Nat):List Oper→Bool
 | []=>true
 | o :: r=>match o.dst with
  | some d=>match Nat.blt d K,ZEa ks d with
   | true,false=>ZBh K ks r
   | _,_=>false
  | none=>ZBh K ks r
def Zyn (f:Fr) (l:Lo) (P:Program):ResultVar→Option V
 | .tmp t=>match lkE f t with
  | some e=>some e.x
  | none=>none
 | .cell x t=>match lkE f x with
  | some ⟨_,_,.ptr u 0⟩=>match lkE l u with
   | some ⟨_,_,.box _ c⟩=>match szA P t with
    | some q=>Zwa FU c 0 q.1 q.2
    | none=>none
   | _=>none
  | _=>none
def Zwk (f:Fr) (l:Lo) (P:Program):List ResultVar→Option V
 | []=>some .nl
 | r :: rs=>match Zyn f l P r,Zwk f l P rs with
  | some (.tup _),_=>none
  | some v,some c=>some (.cons v c)
  | _,_=>none
def Z7a (C:Cf) (cf:CallF) (rs:List ResultVar) (b N:Nat):Code→List Nat→(α:Type)→Go α
 | .skip,_,_,_,f,l,n,K=>K.norm f l n
 | .label _,_,_,_,f,l,n,K=>K.norm f l n
 | .region _ ops draw,ks,_,ann,f,l,n,K=>Z5g b ks ann f l n K λks _ _ f l n K=>match draw,ZBh N ks ops.toList with
  | false,true=>iops C cf ops.toList ops.toList f l n K.norm
  | true,true=>match C.P.follows .mixedOrders,Zre 0 ops.toList with
   | true,true=>match ZEj ops.toList with
    | none=>Z6f C ops.toList ops.toList f l n λf l n ps=>match Zze [] (Zib ops.toList []) ps with
     | true=>K.norm f l n
     | false=>none
    | some o=>Z6f C ops.toList ops.toList.dropLast f l n λf l n ps=>match Zze [] (Zib ops.toList.dropLast []) ps with
     | true=>iops C cf ops.toList [o] f l n K.norm
     | false=>none
   | _,_=>none
  | _,false=>none
 | .seq x y,ks,_,ann,f,l,n,K=>Z5g b ks ann f l n K λks β a f l n K=>Z7a C cf rs b N x ks β a.fst f l n { K with norm:=λf l n=>Z7a C cf rs b N y ks β a.snd f l n K }
 | .cond c x y,ks,_,ann,f,l,n,K=>Z5g b ks ann f l n K λks β a f l n K=>match c with
  | .tmp t=>match lkE f t with
   | some ⟨_,s,.data .bool q⟩=>ifb q (Z7a C cf rs b N x ks β a.fst (⟨t,s,.data .bool true⟩ :: f) l n K) (Z7a C cf rs b N y ks β a.snd (⟨t,s,.data .bool false⟩ :: f) l n K)
   | _=>none
  | .const (.bool true)=>Z7a C cf rs b N x ks β a.fst f l n K
  | .const (.bool false)=>Z7a C cf rs b N y ks β a.snd f l n K
  | _=>none
 | .block id x,ks,_,ann,f,l,n,K=>Z5g b ks ann f l n K λks β a f l n K=>Z7a C cf rs b N x ks β a.fst f l n { K with exit:=λi=>match Nat.beq i id with
  | true=>K.norm
  | false=>K.exit i }
 | .loop x,ks,_,ann,f,l,n,K=>loopI b ann f l n K λβ a f l n K=>Z7a C cf rs b N x ks β a.fst f l n K
 | .scope x,ks,_,ann,f,l,n,K=>Z7a C cf rs b N x ks _ ann.fst f l n K
 | .exit i,_,_,_,f,l,n,K=>K.exit i f l n
 | .ret,_,_,_,f,l,n,K=>match Zwk f l C.P rs with
  | some c=>K.ret c l n
  | none=>none
 | _,_,_,_,_,_,_,_=>none
def endN {α:Type} (fn:Func) (K:V→Lo→Nat→Option α) (_:Fr) (l:Lo) (n:Nat):Option α:=match fn.results.toList with
 | []=>K .nl l n
 | _=>none
abbrev Inl:=List (FuncId×Func×Ann)
def selA:Ann→Fr→Ann
 | .sel i a b,f=>match lkE f i with
  | some ⟨_,_,.row _ _ _ _ _ _⟩=>selA a f
  | _=>selA b f
 | a,_=>a
def Zqj (n:Nat):Lo→Bool
 | []=>true
 | e :: r=>match e.x with
  | .box _ _=>match Nat.blt e.st n with
   | true=>Zqj n r
   | false=>false
  | _=>Zqj n r
def callB {α:Type} (cb:ConB) (ags:V) (l:Lo) (n:Nat) (K:V→Lo→Nat→Option α):Option α:=match ags with
 | .cons (.ptr u 0) rest=>ZQa n (ZFd cb.args rest λx=>Z8c 0 (.box cb.ty cb.c) u λz=>.bind (cb.F z x) λr=>.done r) [] l λr _ l'=>match Zqj n l' with
  | true=>match Zha 0 (.box cb.ty cb.c) r.1 u (n+1) with
   | (l2,m)=>K (Zxd cb.res r.2) (l2++l') m
  | false=>none
 | _=>none
def ZMd (C:Cf) (inl:Inl):Nat→CallF
 | 0,_,_,_,_,_,_=>none
 | d+1,α,g,ags,l,n,K=>match ZU C.boxs g with
  | some cb=>callB cb ags l n K
  | none=>match ZU inl g with
   | some (fn,ann)=>match fn.body,Nat.ble (lenV ags) fn.ntmps with
    | some c,true=>Z7a C (ZMd C inl d) fn.results.toList n fn.ntmps c [] α (selA ann (Z5a n 0 ags)) (Z5a n 0 ags) l (n+1) ⟨endN fn K,λ_ _ _ _=>none,K⟩
    | _,_=>none
   | none=>none
def ZHb:(ts:List T)→Zz ts→V
 | [],_=>.nl
 | [t],x=>.cons (.data t x) .nl
 | t :: u :: r,x=>.cons (.data t x.1) (ZHb (u :: r) x.2)
def ZSi (C:Cf) (inl:Inl) (fn:Func) (ann:Ann) (ats rts:List T) (x:Zz ats):Option (Zz rts):=match fn.body with
 | some c=>Z7a C (ZMd C inl 20) fn.results.toList 0 fn.ntmps c [] _ ann (Z5a 0 0 (ZHb ats x)) [] 1 ⟨λ_ _ _=>none,λ_ _ _ _=>none,λc l n=>ZQa n (ZFd rts c λy=>.done y) [] l λy _ _=>some y⟩
 | none=>none
variable {P:Program} {K:Nat} {w0:Base} {v0:Zb} {σ:List (Nat×Value)} {ℓ:List Loc} {v:Zb} {a:Act} {w:World}
def OwnR {α:Type} (A:Rep α) (T:TypeId) (sz:Nat) (l:List α) (w:World) (r:Value) (v':Zb) (w':World):Prop :=
 ∃ ob n cap cs,r = .slice (mkA ob) n cap∧(Loc.own ob T sz n cap cs).holds w'∧(∀ b,ob=some b→w.heap.size≤b∧v' b=none)∧A.rels v' cs l∧n=l.length
def RetO (P:Program) (f:FuncId) (args:Array Value) (w:World) (v:Zb) (R:Value→Zb→World→Prop):Prop :=
 Calls P f args w λe w'=>∃ r v',e = .returned r∧Ext w w'∧VStep w v w' v'∧R r v' w'
theorem Zui {f:FuncId} {fn:Func} {c:Code} {args:List Value} {w:World} {v:Zb} {R:Value→Zb→World→Prop} (hv:VIn v w) (hf:P.funcs[f]? = some fn) (hb:fn.body=some c) (hK:fn.ntmps=K) (hl:args.length≤K)
  (h:∀ a,St K w v (Zzc 0 args) [] v a w→c.wp P (bodyPost P fn λe w'=>∃ r v',e = .returned r∧Ext w w'∧VStep w v w' v'∧R r v' w') a w):RetO P f args.toArray w v R :=
 calls_of_wp hf hb (by subst hK;exact h _ (St.enter hv args hl))
theorem Zpm {α:Type} {A:Rep α} {w0:World} {fn:Func} (hS:St K w0 v0 σ ℓ v a w) {i n cap sz:Nat} {ob:Option Nat} {T:TypeId} {cs:List Value} {l:List α} (hi:ℓ[i]? = some (.own ob T sz n cap cs)) (hr:(results fn a.tmps).run P w = .ok (.slice (mkA ob) n cap) w) (hA:A.rels v cs l) (hn:n=l.length) :
  bodyPost P fn (λe w'=>∃ r v',e = .returned r∧Ext w0 w'∧VStep w0 v0 w' v'∧OwnR A T sz l w0 r v' w') .ret a w:=by
 obtain⟨hh,hb⟩:=hS.loc _ (mG hi);refine⟨hS.dfr,_,hr,_,v,rfl,hS.ext.ext,hS.vst.ext,ob,n,cap,cs,rfl,hh,λb e=>?_,hA,hn⟩;obtain⟨h1,h2⟩:=hb b e;rcases h1 with h1 | h1
 ·exact⟨h1,h2⟩
 ·exact absurd h1 (by simp)
end Go.Eng
namespace Go.Eng
open Go.RowKit
inductive Gh where
 | box (b:Nat)
 | own (ob:Option Nat) (cap:Nat)
 | mat (ob:Option Nat) (cap:Nat) (rows:List (Option Nat×Nat))
def V.val (x:V) (cs:List Value):Value:=match x.isAgg with
 | true=>.agg cs.toArray
 | false=>cs.headD Go.undef
def ZMj (γ:Nat→Gh) (u:Nat):LV→Value→Prop
 | .own _ _ xs _,y=>∃ ob cap,γ u = .own ob cap∧y = .slice (mkA ob) xs.length cap
 | .mat _ _ _ m _,y=>∃ ob cap rows,γ u = .mat ob cap rows∧y = .slice (mkA ob) m.length cap
 | .mid _ _ _ m _ _,y=>∃ ob cap rows,γ u = .mat ob cap rows∧y = .slice (mkA ob) m.length cap
 | .box _ _,_=>False
def Zvl (γ:Nat→Gh) (u off:Nat):LV→Value→Prop
 | .box _ _,y=>∃ b,γ u = .box b∧y = .pointer (some ⟨b,off,none⟩)
 | _,_=>False
def okEl (γ:Nat→Gh) (u i cv:Nat) (t:T) (x:t.den) (off st:Nat):LV→Value→Prop
 | .own _ s xs _,y=>∃ b cap,γ u = .own (some b) cap∧y = .pointer (some ⟨b,0+i*s.n+off,none⟩)∧i<xs.length∧(st=cv→∃ ys,Zbc s t xs=some ys∧ys[i]? = some x)
 | _,_=>False
def okRp (γ:Nat→Gh) (u i cv:Nat) (t:T) (r:List t.den) (st:Nat):LV→Value→Prop
 | .mat _ _ s m _,y=>∃ b cap rows,γ u = .mat (some b) cap rows∧y = .pointer (some ⟨b,0+i*1,none⟩)∧i<m.length∧(st=cv→∃ m',ZSb s t m=some m'∧m'[i]? = some r)
 | .mid _ _ s m _ _,y=>∃ b cap rows,γ u = .mat (some b) cap rows∧y = .pointer (some ⟨b,0+i*1,none⟩)∧i<m.length∧(st=cv→∃ m',ZSb s t m=some m'∧m'[i]? = some r)
 | .own _ _ _ _,_=>True
 | _,_=>False
def Zdl (γ:Nat→Gh) (u i hv cv:Nat) (t:T) (r:List t.den) (st:Nat):LV→Value→Prop
 | .mat _ _ s m hv',y=>hv'=hv→∃ ob cap rows obi capi,γ u = .mat ob cap rows∧rows[i]? = some (obi,capi)∧y = .slice (mkA obi) r.length capi∧(∃ ri,m[i]? = some ri∧ri.length=r.length)∧(st=cv→∃ m',ZSb s t m=some m'∧m'[i]? = some r)
 | .mid _ _ s m hv' _,y=>hv'=hv→∃ ob cap rows obi capi,γ u = .mat ob cap rows∧rows[i]? = some (obi,capi)∧y = .slice (mkA obi) r.length capi∧(∃ ri,m[i]? = some ri∧ri.length=r.length)∧(st=cv→∃ m',ZSb s t m=some m'∧m'[i]? = some r)
 | .own _ _ _ _,_=>True
 | _,_=>False
def Zhl (γ:Nat→Gh) (u i j hv cv:Nat) (t:T) (r:List t.den) (x:t.den) (off st:Nat):LV→Value→Prop
 | .mat _ _ s m hv',y=>hv'=hv→∃ ob cap rows bi capi,γ u = .mat ob cap rows∧rows[i]? = some (some bi,capi)∧y = .pointer (some ⟨bi,0+j*s.n+off,none⟩)∧(∃ ri,m[i]? = some ri∧ri.length=r.length)∧j<r.length∧(st=cv→(∃ m',ZSb s t m=some m'∧m'[i]? = some r)∧r[j]? = some x)
 | .mid _ _ s m hv' _,y=>hv'=hv→∃ ob cap rows bi capi,γ u = .mat ob cap rows∧rows[i]? = some (some bi,capi)∧y = .pointer (some ⟨bi,0+j*s.n+off,none⟩)∧(∃ ri,m[i]? = some ri∧ri.length=r.length)∧j<r.length∧(st=cv→(∃ m',ZSb s t m=some m'∧m'[i]? = some r)∧r[j]? = some x)
 | .own _ _ _ _,_=>True
 | _,_=>False
def RR (v:Zb) (γ:Nat→Gh) (l:Lo):Bool→V→List Value→Prop
 | false,.data t x,cs=>t.rep.rel v cs x
 | false,.nilS,cs=>cs=[.slice none 0 0]
 | false,.own u,cs=>∃ y,cs=[y]∧plain y=true∧∀ e,lkE l u=some e→ZMj γ u e.x y
 | false,.row u i hv cv t r,cs=>∃ y,cs=[y]∧plain y=true∧∀ e,lkE l u=some e→Zdl γ u i hv cv t r e.st e.x y
 | false,.ptr u off,cs=>∃ y,cs=[y]∧plain y=true∧∀ e,lkE l u=some e→Zvl γ u off e.x y
 | false,.el u i cv t x off,cs=>∃ y,cs=[y]∧plain y=true∧(∃ c,t.rep.rel v c x)∧∀ e,lkE l u=some e→okEl γ u i cv t x off e.st e.x y
 | false,.rp u i _ cv t r,cs=>∃ y,cs=[y]∧plain y=true∧∀ e,lkE l u=some e→okRp γ u i cv t r e.st e.x y
 | false,.rel u i j hv cv t r x off,cs=>∃ y,cs=[y]∧plain y=true∧∀ e,lkE l u=some e→Zhl γ u i j hv cv t r x off e.st e.x y
 | false,.vp t x off,cs=>∃ b o c,At v b o c∧t.rep.rel v c x∧cs=[.pointer (some ⟨b,o+off,none⟩)]
 | false,.nl,cs=>cs=[]
 | false,.cons a b,cs=>∃ c1 c2,cs=c1++c2∧RR v γ l false a c1∧RR v γ l false b c2
 | false,.agg c,cs=>RR v γ l false c cs
 | false,.tup _,_=>False
 | false,.fn f c,cs=>∃ vs,RR v γ l true c vs∧cs=[.func (.func f) #[] vs.toArray]
 | false,.ifc ty c,cs=>∃ cc,RR v γ l false c cc∧cs=[.iface ty (c.val cc)]
 | false,.undef,cs=>cs=[undef]
 | true,.nl,cs=>cs=[]
 | true,.cons a b,cs=>∃ c xs,cs=a.val c :: xs∧RR v γ l false a c∧RR v γ l true b xs
 | true,_,_=>False
def RV (v:Zb) (γ:Nat→Gh) (l:Lo) (x:V) (y:Value):Prop:=match x with
 | .tup c=>∃ vs,RR v γ l true c vs∧y = .tuple vs.toArray
 | x=>∃ cs,RR v γ l false x cs∧y=x.val cs
def V.ok (U:Nat→Prop):V→Prop
 | .own u=>U u
 | .row u _ hv cv _ _=>U u∧U hv∧U cv
 | .ptr u _=>U u
 | .el u _ cv _ _ _=>U u∧U cv
 | .rp u _ hv cv _ _=>U u∧U hv∧U cv
 | .rel u _ _ hv cv _ _ _ _=>U u∧U hv∧U cv
 | .cons a b=>a.ok U∧b.ok U
 | .agg c=>c.ok U
 | .tup c=>c.ok U
 | .fn _ c=>c.ok U
 | .ifc _ c=>c.ok U
 | _=>True
theorem V.ok.mono {U U':Nat→Prop} (h:∀ n,U n→U' n):∀ {x:V},x.ok U→x.ok U'
 | .own _,k=>h _ k
 | .row _ _ _ _ _ _,k=>⟨h _ k.1,h _ k.2.1,h _ k.2.2⟩
 | .ptr _ _,k=>h _ k
 | .el _ _ _ _ _ _,k=>⟨h _ k.1,h _ k.2⟩
 | .rp _ _ _ _ _ _,k=>⟨h _ k.1,h _ k.2.1,h _ k.2.2⟩
 | .rel _ _ _ _ _ _ _ _ _,k=>⟨h _ k.1,h _ k.2.1,h _ k.2.2⟩
 | .cons _ _,k=>⟨V.ok.mono h k.1,V.ok.mono h k.2⟩
 | .agg c,k=>V.ok.mono (x:=c) h k
 | .tup c,k=>V.ok.mono (x:=c) h k
 | .fn _ c,k=>V.ok.mono (x:=c) h k
 | .ifc _ c,k=>V.ok.mono (x:=c) h k
 | .data _ _,_=>trivial
 | .nilS,_=>trivial
 | .vp _ _ _,_=>trivial
 | .nl,_=>trivial
 | .undef,_=>trivial
def CEm (U:Nat→Prop) (γ γ':Nat→Gh) (u:Nat) (st st':Nat) (t:T) (m:List (List t.den)) (hv:Nat) (t':T) (m':List (List t'.den)) (hv':Nat):Prop:=t'=t∧m'.length=m.length∧(∃ ob cap rows rows',γ u = .mat ob cap rows∧γ' u = .mat ob cap rows'∧(U hv'→hv'=hv∧rows'=rows∧m'.map List.length=m.map List.length))∧(U st'→st'=st∧(⟨t',m'⟩:(t:T)×List (List t.den))=⟨t,m⟩)
def CE (U:Nat→Prop) (γ γ':Nat→Gh) (u:Nat) (st st':Nat) (L L':LV):Prop:=match L,L' with
 | .box _ _,.box _ _=>γ' u=γ u
 | .own _ t xs _,.own _ t' xs' _=>γ' u=γ u∧t'=t∧xs'.length=xs.length∧(U st'→st'=st∧(⟨t',xs'⟩:(t:T)×List t.den)=⟨t,xs⟩)
 | .mat _ _ t m hv,.mat _ _ t' m' hv'=>CEm U γ γ' u st st' t m hv t' m' hv'
 | .mat _ _ t m hv,.mid _ _ t' m' hv' _=>CEm U γ γ' u st st' t m hv t' m' hv'
 | .mid _ _ t m hv _,.mat _ _ t' m' hv'=>CEm U γ γ' u st st' t m hv t' m' hv'
 | .mid _ _ t m hv _,.mid _ _ t' m' hv' _=>CEm U γ γ' u st st' t m hv t' m' hv'
 | .mid _ _ _ m _ _,.own _ _ xs' _=>∃ ob cap rows,γ u = .mat ob cap rows∧γ' u = .own ob cap∧xs'.length=m.length
 | .mat _ _ _ m _,.own _ _ xs' _=>∃ ob cap rows,γ u = .mat ob cap rows∧γ' u = .own ob cap∧xs'.length=m.length
 | _,_=>False
structure Le (U:Nat→Prop) (v:Zb) (γ:Nat→Gh) (l:Lo) (v':Zb) (γ':Nat→Gh) (l':Lo):Prop where
 v:v.le v'
 l:∀ u e',U u→lkE l' u=some e'→∃ e,lkE l u=some e∧CE U γ γ' u e.st e'.st e.x e'.x
theorem Ziq {α β:Type} {m:List (List α)} {m':List (List β)} (h:m'.map List.length=m.map List.length) {i:Nat} {r:List α} (hr:m[i]? = some r):∃ r',m'[i]? = some r'∧r'.length=r.length:=by
 have:=congrArg (·[i]?) h;simp only[List.getElem?_map,hr,Option.map_some]at this
 cases hm:m'[i]? with
 | none=>rw[hm]at this;cases this
 | some r'=>rw[hm]at this;exact⟨r',rfl,Option.some.inj this⟩
section
variable {U:Nat→Prop} {v v':Zb} {γ γ':Nat→Gh} {l l':Lo}
theorem Zgz {u:Nat} {L L':LV} {st st':Nat} {y:Value} (h:ZMj γ u L y) (c:CE U γ γ' u st st' L L'):ZMj γ' u L' y:=by
 have key:∀ {t t':T} {m:List (List t.den)} {m':List (List t'.den)} {hv hv':Nat},(∃ ob cap rows,γ u = .mat ob cap rows∧y = .slice (mkA ob) m.length cap)→CEm U γ γ' u st st' t m hv t' m' hv'→∃ ob cap rows,γ' u = .mat ob cap rows∧y = .slice (mkA ob) m'.length cap:=by
  rintro t t' m m' hv hv' ⟨ob',cap',rows2,h5,h6⟩ ⟨h1,h2,⟨ob,cap,rows,rows',h3,h4,_⟩,_⟩;rw[h3]at h5;cases h5;exact⟨_,_,rows',h4,by rw[h6,h2]⟩
 have key2:∀ {t:T} {m:List (List t.den)} {t':T} {xs':List t'.den},(∃ ob cap rows,γ u = .mat ob cap rows∧y = .slice (mkA ob) m.length cap)→(∃ ob cap rows,γ u = .mat ob cap rows∧γ' u = .own ob cap∧xs'.length=m.length)→∃ ob cap,γ' u = .own ob cap∧y = .slice (mkA ob) xs'.length cap:=by
  rintro t m t' xs' ⟨ob',cap',rows',h4,h5⟩ ⟨ob,cap,rows,h1,h2,h3⟩;rw[h1]at h4;cases h4;exact⟨_,_,h2,by rw[h5,h3]⟩
 cases L <;> cases L' <;> simp only[CE]at c <;> simp only[ZMj]at h ⊢
 ·obtain⟨h1,h2,h3,_⟩:=c;obtain⟨ob,cap,h4,h5⟩:=h;exact⟨ob,cap,by rw[h1,h4],by rw[h5,h3]⟩
 all_goals first | exact key h c | exact key2 h c
theorem Zgw {u off:Nat} {L L':LV} {st st':Nat} {y:Value} (h:Zvl γ u off L y) (c:CE U γ γ' u st st' L L'):Zvl γ' u off L' y:=by
 cases L <;> cases L' <;> simp only[CE]at c <;> simp only[Zvl]at h ⊢
 obtain⟨b,h1,h2⟩:=h;exact⟨b,by rw[c,h1],h2⟩
theorem Zhv {u i cv:Nat} {t:T} {x:t.den} {off:Nat} {L L':LV} {st st':Nat} {y:Value} (hU:U cv) (h:okEl γ u i cv t x off st L y) (c:CE U γ γ' u st st' L L'):okEl γ' u i cv t x off st' L' y:=by
 cases L <;> cases L' <;> simp only[CE]at c <;> simp only[okEl]at h ⊢
 rename_i ty t1 xs fz ty' t2 xs' fz';obtain⟨h1,h2,h3,h4⟩:=c;subst h2;obtain⟨b,cap,h5,h6,h7,h8⟩:=h;refine⟨b,cap,by rw[h1,h5],h6,by omega,λe=>?_⟩;subst e;obtain⟨e1,e2⟩:=h4 hU
 cases e2
 exact h8 e1.symm
theorem ZHw {u i cv:Nat} {t:T} {r:List t.den} {L L':LV} {st st':Nat} {y:Value} (hU:U cv) (h:okRp γ u i cv t r st L y) (c:CE U γ γ' u st st' L L'):okRp γ' u i cv t r st' L' y:=by
 have key:∀ {t1 t2:T} {m:List (List t1.den)} {m':List (List t2.den)} {hv hv':Nat},(∃ b cap rows,γ u = .mat (some b) cap rows∧y = .pointer (some ⟨b,0+i*1,none⟩)∧i<m.length∧(st=cv→∃ m',ZSb t1 t m=some m'∧m'[i]? = some r))→CEm U γ γ' u st st' t1 m hv t2 m' hv'→∃ b cap rows,γ' u = .mat (some b) cap rows∧y = .pointer (some ⟨b,0+i*1,none⟩)∧i<m'.length∧(st'=cv→∃ m2,ZSb t2 t m'=some m2∧m2[i]? = some r):=by
  intro t1 t2 m m' hv hv' h c;obtain⟨h2,h3,⟨ob,cap,rows,rows',g1,g2,_⟩,h4⟩:=c;subst h2;obtain⟨b,cap',rw',h5,h6,h7,h8⟩:=h;rw[g1]at h5;cases h5;refine⟨b,cap,rows',g2,h6,by omega,λe=>?_⟩;subst e;obtain⟨e1,e2⟩:=h4 hU
  cases e2
  exact h8 e1.symm
 cases L <;> cases L' <;> simp only[CE]at c <;> simp only[okRp]at h ⊢
 all_goals exact key h c
theorem ZMz {u i hv cv:Nat} {t:T} {r:List t.den} {L L':LV} {st st':Nat} {y:Value} (hH:U hv) (hU:U cv) (h:Zdl γ u i hv cv t r st L y) (c:CE U γ γ' u st st' L L'):Zdl γ' u i hv cv t r st' L' y:=by
 have key:∀ {t1 t2:T} {m:List (List t1.den)} {m':List (List t2.den)} {hv1 hv2:Nat},(hv1=hv→∃ ob cap rows obi capi,γ u = .mat ob cap rows∧rows[i]? = some (obi,capi)∧y = .slice (mkA obi) r.length capi∧(∃ ri,m[i]? = some ri∧ri.length=r.length)∧(st=cv→∃ m2,ZSb t1 t m=some m2∧m2[i]? = some r))→CEm U γ γ' u st st' t1 m hv1 t2 m' hv2→(hv2=hv→∃ ob cap rows obi capi,γ' u = .mat ob cap rows∧rows[i]? = some (obi,capi)∧y = .slice (mkA obi) r.length capi∧(∃ ri,m'[i]? = some ri∧ri.length=r.length)∧(st'=cv→∃ m2,ZSb t2 t m'=some m2∧m2[i]? = some r)):=by
  intro t1 t2 m m' hv1 hv2 h c;obtain⟨h2,h3,⟨ob,cap,rows,rows',g1,g2,g3⟩,h4⟩:=c;subst h2;intro e;subst e;obtain⟨e1,e2,e3⟩:=g3 hH;obtain⟨ob',cap',rw',obi,capi,k1,k2,k3,⟨ri,k4,k5⟩,k6⟩:=h e1.symm;rw[g1]at k1;cases k1;subst e2;obtain⟨r',q1,q2⟩:=Ziq e3 k4;refine⟨ob,cap,_,obi,capi,g2,k2,k3,⟨r',q1,by omega⟩,λe=>?_⟩;subst e;obtain⟨f1,f2⟩:=h4 hU
  cases f2
  exact k6 f1.symm
 cases L <;> cases L' <;> simp only[CE]at c <;> simp only[Zdl]at h ⊢
 all_goals exact key h c
theorem ZBx {u i j hv cv:Nat} {t:T} {r:List t.den} {x:t.den} {off:Nat} {L L':LV} {st st':Nat} {y:Value} (hH:U hv) (hU:U cv) (h:Zhl γ u i j hv cv t r x off st L y) (c:CE U γ γ' u st st' L L'):Zhl γ' u i j hv cv t r x off st' L' y:=by
 have key:∀ {t1 t2:T} {m:List (List t1.den)} {m':List (List t2.den)} {hv1 hv2:Nat},(hv1=hv→∃ ob cap rows bi capi,γ u = .mat ob cap rows∧rows[i]? = some (some bi,capi)∧y = .pointer (some ⟨bi,0+j*t1.n+off,none⟩)∧(∃ ri,m[i]? = some ri∧ri.length=r.length)∧j<r.length∧(st=cv→(∃ m2,ZSb t1 t m=some m2∧m2[i]? = some r)∧r[j]? = some x))→CEm U γ γ' u st st' t1 m hv1 t2 m' hv2→(hv2=hv→∃ ob cap rows bi capi,γ' u = .mat ob cap rows∧rows[i]? = some (some bi,capi)∧y = .pointer (some ⟨bi,0+j*t2.n+off,none⟩)∧(∃ ri,m'[i]? = some ri∧ri.length=r.length)∧j<r.length∧(st'=cv→(∃ m2,ZSb t2 t m'=some m2∧m2[i]? = some r)∧r[j]? = some x)):=by
  intro t1 t2 m m' hv1 hv2 h c;obtain⟨h2,h3,⟨ob,cap,rows,rows',g1,g2,g3⟩,h4⟩:=c;subst h2;intro e;subst e;obtain⟨e1,e2,e3⟩:=g3 hH;obtain⟨ob',cap',rw',bi,capi,k1,k2,k3,⟨ri,k4,k5⟩,k6,k7⟩:=h e1.symm;rw[g1]at k1;cases k1;subst e2;obtain⟨r',q1,q2⟩:=Ziq e3 k4;refine⟨ob,cap,_,bi,capi,g2,k2,k3,⟨r',q1,by omega⟩,k6,λe=>?_⟩;subst e;obtain⟨f1,f2⟩:=h4 hU
  cases f2
  exact k7 f1.symm
 cases L <;> cases L' <;> simp only[CE]at c <;> simp only[Zhl]at h ⊢
 all_goals exact key h c
theorem ZEb (h:Le U v γ l v' γ' l'):∀ {x:V} {m:Bool} {cs:List Value},x.ok U→RR v γ l m x cs→RR v' γ' l' m x cs:=by
 intro x
 induction x with
 | data t x=>intro m cs hk hr;cases m <;> first | exact Rep.mono _ h.v hr | exact hr
 | nilS=>intro m cs hk hr;cases m <;> first | exact hr | exact hr
 | own u =>
  intro m cs hk hr;cases m
  ·obtain⟨y,h1,hp,h2⟩:=hr;refine⟨y,h1,hp,λe' he=>?_⟩;obtain⟨e,h3,h4⟩:=h.l u e' hk he;exact Zgz (h2 e h3) h4
  ·exact hr
 | row u i hv cv t r =>
  intro m cs hk hr;cases m
  ·obtain⟨y,h1,hp,h2⟩:=hr;refine⟨y,h1,hp,λe' he=>?_⟩;obtain⟨e,h3,h4⟩:=h.l u e' hk.1 he;exact ZMz hk.2.1 hk.2.2 (h2 e h3) h4
  ·exact hr
 | ptr u off =>
  intro m cs hk hr;cases m
  ·obtain⟨y,h1,hp,h2⟩:=hr;refine⟨y,h1,hp,λe' he=>?_⟩;obtain⟨e,h3,h4⟩:=h.l u e' hk he;exact Zgw (h2 e h3) h4
  ·exact hr
 | el u i cv t x off =>
  intro m cs hk hr;cases m
  ·obtain⟨y,h1,hp,⟨c0,hc0⟩,h2⟩:=hr;refine⟨y,h1,hp,⟨c0,Rep.mono _ h.v hc0⟩,λe' he=>?_⟩;obtain⟨e,h3,h4⟩:=h.l u e' hk.1 he;exact Zhv hk.2 (h2 e h3) h4
  ·exact hr
 | rp u i hv cv t r =>
  intro m cs hk hr;cases m
  ·obtain⟨y,h1,hp,h2⟩:=hr;refine⟨y,h1,hp,λe' he=>?_⟩;obtain⟨e,h3,h4⟩:=h.l u e' hk.1 he;exact ZHw hk.2.2 (h2 e h3) h4
  ·exact hr
 | rel u i j hv cv t r x off =>
  intro m cs hk hr;cases m
  ·obtain⟨y,h1,hp,h2⟩:=hr;refine⟨y,h1,hp,λe' he=>?_⟩;obtain⟨e,h3,h4⟩:=h.l u e' hk.1 he;exact ZBx hk.2.1 hk.2.2 (h2 e h3) h4
  ·exact hr
 | vp t x off =>
  intro m cs hk hr;cases m
  ·obtain⟨b,o,c,h1,h2,h3⟩:=hr;exact⟨b,o,c,At.mono h.v h1,Rep.mono _ h.v h2,h3⟩
  ·exact hr
 | nl=>intro m cs hk hr;cases m <;> first | exact hr | exact hr
 | cons a b ia ib =>
  intro m cs hk hr;cases m
  ·obtain⟨c1,c2,h1,h2,h3⟩:=hr;exact⟨c1,c2,h1,ia hk.1 h2,ib hk.2 h3⟩
  ·obtain⟨c,xs,h1,h2,h3⟩:=hr;exact⟨c,xs,h1,ia hk.1 h2,ib hk.2 h3⟩
 | agg c ih=>intro m cs hk hr;cases m <;> first | exact ih (m:=false) hk hr | exact hr
 | tup c ih=>intro m cs hk hr;cases m <;> first | exact hr | exact hr
 | fn f c ih =>
  intro m cs hk hr;cases m
  ·obtain⟨vs,h1,h2⟩:=hr;exact⟨vs,ih (m:=true) hk h1,h2⟩
  ·exact hr
 | ifc ty c ih =>
  intro m cs hk hr;cases m
  ·obtain⟨vs,h1,h2⟩:=hr;exact⟨vs,ih (m:=false) hk h1,h2⟩
  ·exact hr
 | undef=>intro m cs hk hr;cases m <;> first | exact hr | exact hr
theorem Zob (h:Le U v γ l v' γ' l') {x:V} {y:Value} (hk:x.ok U) (hr:RV v γ l x y):RV v' γ' l' x y:=by
 cases x <;> simp only[RV]at hr ⊢ <;> obtain⟨cs,h1,h2⟩:=hr <;> exact⟨cs,ZEb h hk h1,h2⟩
end
end Go.Eng
namespace Go.Eng
open Go.RowKit
def F2 {α β:Type} (R:α→β→Prop):List α→List β→Prop
 | [],[]=>True
 | a :: l,b :: m=>R a b∧F2 R l m
 | _,_=>False
theorem F2.imp {α β:Type} {R R':α→β→Prop}:∀ {l:List α} {m:List β},(∀ a ∈ l,∀ b,R a b→R' a b)→F2 R l m→F2 R' l m
 | [],[],_,_=>trivial
 | a :: l,b :: m,h,k=>⟨h a (by simp) b k.1,F2.imp (λx hx y=>h x (by simp[hx]) y) k.2⟩
 | [],_ :: _,_,k=>k.elim
 | _ :: _,[],_,k=>k.elim
def Zo {α:Type}:List (Option Nat×Nat)→List (List α)→List Value
 | p :: ps,r :: rs=>.slice (mkA p.1) r.length p.2 :: Zo ps rs
 | _,_=>[]
def Zua (v:Zb) (ty:TypeId) (t:T):List (Option Nat×Nat)→List (List t.den)→List Loc→Prop
 | [],[],es=>es=[]
 | p :: ps,r :: rs,es=>∃ cs es',t.rep.rels v cs r∧es = .own p.1 ty t.n r.length p.2 cs :: es'∧Zua v ty t ps rs es'
 | _,_,_=>False
def MidR {t:T} (rows:List (Option Nat×Nat)) (m:List (List t.den)) (es2:List Loc) (hs:List Value) (es3:List Loc):Mid→Prop
 | .hol i=>hs=Zo rows m∧∃ e1 c e2,es2=e1++c :: e2∧e1.length=i∧es3=e1++e2
 | .swp i j=>es3=es2∧i<m.length∧∃ h,(Zo rows m)[j]? = some h∧hs=(Zo rows m).set i h
def ZIa (v:Zb) (γ:Nat→Gh) (l:Lo) (e:En LV) (es:List Loc):Prop:=match e.x with
 | .box ty c=>∃ b cs,γ e.k = .box b∧RR v γ l false c cs∧cs.all plain=true∧es=[.box b ty cs]
 | .own ty t xs false=>∃ ob cap cs,γ e.k = .own ob cap∧t.rep.rels v cs xs∧es=[.own ob ty t.n xs.length cap cs]
 | .own _ t xs true=>∃ ob cap,γ e.k = .own ob cap∧(ZG t.rep).rel v [.slice (mkA ob) xs.length cap] xs∧es=[]
 | .mat ty ty2 t m _=>∃ ob cap rows es2,γ e.k = .mat ob cap rows∧Zua v ty2 t rows m es2∧es = .own ob ty 1 m.length cap (Zo rows m) :: es2
 | .mid ty ty2 t m _ s=>∃ ob cap rows es2 hs es3,γ e.k = .mat ob cap rows∧Zua v ty2 t rows m es2∧MidR rows m es2 hs es3 s∧es = .own ob ty 1 m.length cap hs :: es3
def LV.ok (U X:Nat→Prop):LV→Prop
 | .box _ c=>c.ok U
 | .own _ _ _ _=>True
 | .mat _ _ _ _ hv=>X hv
 | .mid _ _ _ _ hv _=>X hv
theorem LV.ok.mono {U U' X X':Nat→Prop} (h:∀ n,U n→U' n) (h':∀ n,X n→X' n) {L:LV} (k:L.ok U X):L.ok U' X':=by
 cases L
 ·exact V.ok.mono h k
 ·trivial
 ·exact h' _ k
 ·exact h' _ k
structure RelX (N:Nat) (G:V→Value→Prop) (w0:Base) (v0:Zb) (U X:Nat→Prop) (f:Fr) (l:Lo) (a:Act) (w:World) (γ:Nat→Gh) (v:Zb) (ℓ:List Loc):Prop where
 st:St N w0 v0 [] ℓ v a w
 fr:∀ t e,lkE f t=some e→RV v γ l e.x (a.tmps.getD t undef)
 lr:∃ E,F2 (ZIa v γ l) l E∧ℓ.Perm E.flatten
 nd:(l.map En.k).Nodup
 uf:∀ t e,lkE f t=some e→e.x.ok U∧X e.st
 ul:∀ e ∈ l,X e.k∧X e.st∧e.x.ok U X
 gh:∀ x y,G x y→RV v γ l x y∧x.ok U
def Rel (N:Nat) (G:V→Value→Prop) (w0:Base) (v0:Zb) (U:Nat→Prop) (f:Fr) (l:Lo) (a:Act) (w:World):Prop:=∃ γ v ℓ,RelX N G w0 v0 U U f l a w γ v ℓ
theorem Zq {β:Type}:∀ {l:List (En β)} {t:Nat} {e:En β},lkE l t=some e→e ∈ l∧e.k=t
 | [],_,_,h=>by cases h
 | p :: r,t,e,h=>by
  simp only[lkE]at h
  cases hb:Nat.beq p.k t
  ·rw[hb]at h;have:=Zq h;exact⟨by simp[this.1],this.2⟩
  ·rw[hb]at h;cases h;exact⟨by simp,eQ hb⟩
theorem ZN {β:Type} {p:En β} {r:List (En β)} {t:Nat}:lkE (p :: r) t=if p.k=t then some p else lkE r t:=by
 simp only[lkE]
 cases hb:Nat.beq p.k t
 ·rw[iN (λe=>by rw[e]at hb;simp at hb)]
 ·rw[iP (eQ hb)]
theorem Zyl {β:Type} {p:En β} {r:List (En β)} {t:Nat}:era (p :: r) t=if p.k=t then r else p :: era r t:=by
 simp only[era]
 cases hb:Nat.beq p.k t
 ·rw[iN (λe=>by rw[e]at hb;simp at hb)]
 ·rw[iP (eQ hb)]
theorem Zpi {β:Type} {l:List (En β)} {t:Nat}:∀ e ∈ era l t,e ∈ l:=by
 induction l with
 | nil=>intro e h;cases h
 | cons p r ih =>
  intro e h;rw[Zyl]at h;split at h
  ·simp[h]
  ·rcases List.mem_cons.1 h with h | h
   ·simp[h]
   ·simp[ih e h]
theorem Z2b {β:Type} {l:List (En β)} {t:Nat} (h:(l.map En.k).Nodup):((era l t).map En.k).Nodup∧t ∉ (era l t).map En.k:=by
 induction l with
 | nil=>simp[era]
 | cons p r ih =>
  simp only[List.map_cons,List.nodup_cons]at h;rw[Zyl];split
  ·rename_i hp;subst hp;exact⟨h.2,h.1⟩
  ·rename_i hp;obtain⟨i1,i2⟩:=ih h.2;refine⟨?_,?_⟩
   ·simp only[List.map_cons,List.nodup_cons];refine⟨λhm=>h.1 ?_,i1⟩;obtain⟨e,he,hk⟩:=List.mem_map.1 hm;exact List.mem_map.2 ⟨e,Zpi e he,hk⟩
   ·simp only[List.map_cons,List.mem_cons,not_or];exact⟨λe=>hp e.symm,i2⟩
theorem Z1i {β:Type} {l:List (En β)} {t:Nat} (h:t ∉ l.map En.k):lkE l t=none:=by
 cases hl:lkE l t with
 | none=>rfl
 | some e=>have:=Zq hl;exact absurd (List.mem_map.2 ⟨e,this.1,this.2⟩) h
theorem Zbh {β:Type} {l:List (En β)} {t:Nat} (h:lkE l t=none):t ∉ l.map En.k:=by
 induction l with
 | nil=>simp
 | cons p r ih =>
  rw[ZN]at h;split at h
  ·cases h
  ·rename_i hp;simp only[List.map_cons,List.mem_cons,not_or];exact⟨λe=>hp e.symm,ih h⟩
theorem Z6b {β:Type} {l:List (En β)} {t u:Nat} (h:(l.map En.k).Nodup):lkE (era l t) u=if t=u then none else lkE l u:=by
 split
 ·rename_i e;subst e;exact Z1i (Z2b h).2
 ·rename_i hne
  induction l with
  | nil=>rfl
  | cons p r ih =>
   simp only[List.map_cons,List.nodup_cons]at h;rw[Zyl];split
   ·rename_i hp;rw[ZN,iN (by omega)]
   ·rw[ZN,ZN];split
    ·rfl
    ·exact ih h.2
theorem Zrf {R:En LV→List Loc→Prop}:∀ {l:Lo} {E:List (List Loc)} {u:Nat} {e:En LV},F2 R l E→lkE l u=some e→∃ es E',R e es∧F2 R (era l u) E'∧E.flatten.Perm (es++E'.flatten)
 | [],_,_,_,_,h=>by cases h
 | p :: r,[],_,_,hf,_=>hf.elim
 | p :: r,es :: E,u,e,hf,h=>by
  rw[ZN]at h
  rw[Zyl]
  split at h
  ·rename_i hp;cases h;rw[iP hp];exact⟨es,E,hf.1,hf.2,List.Perm.refl _⟩
  ·rename_i hp
   rw[iN hp]
   obtain⟨es',E',h1,h2,h3⟩:=Zrf hf.2 h
   refine⟨es',es :: E',h1,⟨hf.1,h2⟩,?_⟩
   simp only[List.flatten_cons]
   exact ((List.Perm.append_left es h3).trans (by rw[← aAq,← aAq];exact List.Perm.append_right _ List.perm_append_comm))
theorem St.perm {K:Nat} {w0:Base} {v0:Zb} {σ:List (Nat×Value)} {ℓ ℓ':List Loc} {v:Zb} {a:Act} {w:World} (h:St K w0 v0 σ ℓ v a w) (p:ℓ.Perm ℓ'):St K w0 v0 σ ℓ' v a w :=
 ⟨h.size,h.dfr,h.fr,h.ext,h.vst,λe he=>h.loc e (p.mem_iff.2 he),(p.filterMap _).nodup_iff.1 h.nd⟩
section
variable {U:Nat→Prop} {v v':Zb} {γ γ':Nat→Gh} {l l':Lo}
theorem ZVc (h:v.le v') {ty:TypeId} {t:T}:∀ {rows:List (Option Nat×Nat)} {m:List (List t.den)} {es:List Loc},Zua v ty t rows m es→Zua v' ty t rows m es
 | [],[],_,k=>k
 | _ :: _,_ :: _,_,⟨cs,es',h1,h2,h3⟩=>⟨cs,es',ZT h h1,h2,ZVc h h3⟩
 | [],_ :: _,_,k=>k.elim
 | _ :: _,[],_,k=>k.elim
theorem ZQf {ty:TypeId} {t:T}:∀ {rows:List (Option Nat×Nat)} {m:List (List t.den)} {es:List Loc},Zua v ty t rows m es→rows.length=m.length
 | [],[],_,_=>rfl
 | _ :: _,_ :: _,_,⟨_,_,_,_,h3⟩=>by simp[ZQf h3]
 | [],_ :: _,_,k=>k.elim
 | _ :: _,[],_,k=>k.elim
theorem ZJh {X:Nat→Prop} (h:Le U v γ l v' γ' l') {e:En LV} {es:List Loc} (hk:e.x.ok U X) (hg:γ' e.k=γ e.k) (r:ZIa v γ l e es):ZIa v' γ' l' e es:=by
 obtain⟨k,st,x⟩:=e
 cases x with
 | box ty c =>
  obtain⟨b,cs,h1,h2,h3,h4⟩:=r;exact⟨b,cs,by rw[hg];exact h1,ZEb h hk h2,h3,h4⟩
 | own ty t xs fz =>
  cases fz with
  | false=>obtain⟨ob,cap,cs,h1,h2,h3⟩:=r;exact⟨ob,cap,cs,by rw[hg];exact h1,ZT h.v h2,h3⟩
  | true=>obtain⟨ob,cap,h1,h2,h3⟩:=r;exact⟨ob,cap,by rw[hg];exact h1,Rep.mono _ h.v h2,h3⟩
 | mat ty ty2 t m hv =>
  obtain⟨ob,cap,rows,es2,h1,h2,h3⟩:=r;exact⟨ob,cap,rows,es2,by rw[hg];exact h1,ZVc h.v h2,h3⟩
 | mid ty ty2 t m hv s =>
  obtain⟨ob,cap,rows,es2,hs,es3,h1,h2,h3,h4⟩:=r;exact⟨ob,cap,rows,es2,hs,es3,by rw[hg];exact h1,ZVc h.v h2,h3,h4⟩
theorem ZKg {e:En LV} {es:List Loc} (r:ZIa v γ l e es) (hg:γ' e.k=γ e.k):CE U γ γ' e.k e.st e.st e.x e.x:=by
 obtain⟨k,st,x⟩:=e
 cases x with
 | box ty c=>exact hg
 | own ty t xs fz=>exact⟨hg,rfl,rfl,λ_=>⟨rfl,rfl⟩⟩
 | mat ty ty2 t m hv =>
  obtain⟨ob,cap,rows,es2,h1,_⟩:=r;exact⟨rfl,rfl,⟨ob,cap,rows,rows,h1,by rw[hg];exact h1,λ_=>⟨rfl,rfl,rfl⟩⟩,λ_=>⟨rfl,rfl⟩⟩
 | mid ty ty2 t m hv s =>
  obtain⟨ob,cap,rows,es2,hs,es3,h1,_⟩:=r;exact⟨rfl,rfl,⟨ob,cap,rows,rows,h1,by rw[hg];exact h1,λ_=>⟨rfl,rfl,rfl⟩⟩,λ_=>⟨rfl,rfl⟩⟩
theorem ZRe {R:En LV→List Loc→Prop}:∀ {l:Lo} {E:List (List Loc)} {e:En LV},F2 R l E→e ∈ l→∃ es,R e es
 | [],_,_,_,h=>by cases h
 | _ :: _,[],_,hf,_=>hf.elim
 | p :: r,es :: E,e,hf,h=>by
  rcases List.mem_cons.1 h with rfl | h
  ·exact⟨es,hf.1⟩
  ·exact ZRe hf.2 h
theorem Le.refl {E:List (List Loc)} (h:F2 (ZIa v γ l) l E) (hv:v.le v'):Le U v γ l v' γ l :=
 ⟨hv,λu e' _ he=>⟨e',he,by
  obtain⟨hm,hk⟩:=Zq he
  obtain⟨es,hr⟩:=ZRe h hm
  have:=ZKg (U:=U) hr (rfl:γ e'.k=γ e'.k)
  rw[hk]at this;exact this⟩⟩
end
section
variable {N:Nat} {G:V→Value→Prop} {w0:Base} {v0:Zb} {U X:Nat→Prop} {f:Fr} {l:Lo} {a:Act} {w:World} {γ:Nat→Gh} {v:Zb} {ℓ:List Loc}
theorem RelX.upd (h:RelX N G w0 v0 U X f l a w γ v ℓ) {u n:Nat} {L':LV} {γ':Nat→Gh} {v':Zb} {w':World} {ℓ':List Loc} {es':List Loc} {E':List (List Loc)}
  (hn:X n) (huU:X u) (hE:F2 (ZIa v γ l) (era l u) E') (hst:St N w0 v0 [] ℓ' v' a w') (hle:Le U v γ l v' γ' (⟨u,n,L'⟩ :: era l u)) (hg:∀ k,k≠u→γ' k=γ k)
  (hl:ZIa v' γ' (⟨u,n,L'⟩ :: era l u) ⟨u,n,L'⟩ es') (hp:ℓ'.Perm (es'++E'.flatten)) (hok:L'.ok U X):RelX N G w0 v0 U X f (⟨u,n,L'⟩ :: era l u) a w' γ' v' ℓ':=by
 obtain⟨n1,n2⟩:=Z2b (t:=u) h.nd;refine⟨hst,λt e he=>Zob hle (h.uf t e he).1 (h.fr t e he),⟨es' :: E',⟨hl,hE.imp λe he es hr=>?_⟩,hp⟩,?_,h.uf,λe he=>?_,λx y hg=>⟨Zob hle (h.gh x y hg).2 (h.gh x y hg).1,(h.gh x y hg).2⟩⟩
 ·refine ZJh hle (h.ul e (Zpi e he)).2.2 (hg _ λhk=>n2 ?_) hr;exact List.mem_map.2 ⟨e,he,hk⟩
 ·simp only[List.map_cons,List.nodup_cons];exact⟨n2,n1⟩
 ·rcases List.mem_cons.1 he with rfl | he
  ·exact⟨huU,hn,hok⟩
  ·exact h.ul e (Zpi e he)
theorem RelX.new (h:RelX N G w0 v0 U X f l a w γ v ℓ) {u n:Nat} {L':LV} {γ':Nat→Gh} {v':Zb} {w':World} {ℓ':List Loc} {es':List Loc} {E':List (List Loc)}
  (hn:X n) (huU:X u) (hfresh:¬ U u) (hnew:lkE l u=none) (hE:F2 (ZIa v γ l) l E') (hst:St N w0 v0 [] ℓ' v' a w') (hv:v.le v') (hg:∀ k,k≠u→γ' k=γ k)
  (hl:ZIa v' γ' (⟨u,n,L'⟩ :: l) ⟨u,n,L'⟩ es') (hp:ℓ'.Perm (es'++E'.flatten)) (hok:L'.ok U X):RelX N G w0 v0 U X f (⟨u,n,L'⟩ :: l) a w' γ' v' ℓ':=by
 have hkey:∀ e ∈ l,e.k≠u:=λe he hk=>Zbh hnew (List.mem_map.2 ⟨e,he,hk⟩);have hle:Le U v γ l v' γ' (⟨u,n,L'⟩ :: l):=⟨hv,λk e' hk he=>by
  have hne:u≠k:=λe=>hfresh (e ▸ hk);rw[ZN,iN hne]at he;refine⟨e',he,?_⟩;obtain⟨hm,hk'⟩:=Zq he;obtain⟨es,hr⟩:=ZRe hE hm;have:=ZKg (U:=U) (γ':=γ') hr (hg _ (by rw[hk'];exact λe=>hne e.symm));rw[hk']at this;exact this⟩
 refine⟨hst,λt e he=>Zob hle (h.uf t e he).1 (h.fr t e he),⟨es' :: E',⟨hl,hE.imp λe he es hr=>?_⟩,hp⟩,?_,h.uf,λe he=>?_,λx y hg=>⟨Zob hle (h.gh x y hg).2 (h.gh x y hg).1,(h.gh x y hg).2⟩⟩
 ·exact ZJh hle (h.ul e he).2.2 (hg _ (hkey e he)) hr
 ·simp only[List.map_cons,List.nodup_cons];refine⟨λhm=>?_,h.nd⟩;obtain⟨e,he,hk⟩:=List.mem_map.1 hm;exact hkey e he hk
 ·rcases List.mem_cons.1 he with rfl | he
  ·exact⟨huU,hn,hok⟩
  ·exact h.ul e he
theorem Le.era (h:RelX N G w0 v0 U X f l a w γ v ℓ) (u:Nat):Le U v γ l v γ (era l u):=by
 obtain⟨E,hE,_⟩:=h.lr;refine⟨Zb.le_refl _,λk e' _ he=>?_⟩;rw[Z6b h.nd]at he;split at he
 ·cases he
 ·refine⟨e',he,?_⟩;obtain⟨hm,hk'⟩:=Zq he;obtain⟨es,hr⟩:=ZRe hE hm;have:=ZKg (U:=U) (γ':=γ) hr rfl;rw[hk']at this;exact this
theorem RelX.del (h:RelX N G w0 v0 U X f l a w γ v ℓ) {u:Nat} {e:En LV} (hu:lkE l u=some e):∃ es E',ZIa v γ l e es∧F2 (ZIa v γ l) (era l u) E'∧F2 (ZIa v γ (era l u)) (era l u) E'∧ℓ.Perm (es++E'.flatten)∧RelX N G w0 v0 U X f (era l u) a w γ v E'.flatten:=by
 obtain⟨E,hE,hp⟩:=h.lr;obtain⟨es,E',h1,h2,h3⟩:=Zrf hE hu;have hle:=Le.era h u;have h4:F2 (ZIa v γ (era l u)) (era l u) E':=h2.imp λe he es hr=>ZJh hle (h.ul e (Zpi e he)).2.2 rfl hr;exact⟨es,E',h1,h2,h4,hp.trans h3,(h.st.perm (hp.trans h3)).drop (List.sublist_append_right _ _),λt e he=>Zob hle (h.uf t e he).1 (h.fr t e he),⟨E',h4,List.Perm.refl _⟩,(Z2b h.nd).1,h.uf,λe he=>h.ul e (Zpi e he),λx y hg=>⟨Zob hle (h.gh x y hg).2 (h.gh x y hg).1,(h.gh x y hg).2⟩⟩
theorem RelX.put (h:RelX N G w0 v0 U X f l a w γ v ℓ) {d n:Nat} {x:V} {y:Value} (hd:d<N) (hr:RV v γ l x y) (hx:x.ok U) (hn:X n):RelX N G w0 v0 U X (⟨d,n,x⟩ :: f) l (a.put (some d) y) w γ v ℓ:=by
 have hs:=h.st.put y hd;refine⟨⟨hs.size,hs.dfr,λt x e=>(by cases e),hs.ext,hs.vst,hs.loc,hs.nd⟩,λt e he=>?_,h.lr,h.nd,λt e he=>?_,h.ul,h.gh⟩
 ·rw[ZN]at he;split at he
  ·rename_i hdt
   cases he
   have hdt':d=t:=hdt;subst hdt';have:=hs.fr d y (Zjf rfl);rw[this];exact hr
  ·rename_i hdt;have:=h.fr t e he;have e2:(a.put (some d) y).tmps.getD t undef=a.tmps.getD t undef:=by
    have hdt':¬ d=t:=hdt;simp[Act.put,Array.getElem?_setIfInBounds_ne hdt']
   rw[e2];exact this
 ·rw[ZN]at he;split at he
  ·cases he;exact⟨hx,hn⟩
  ·exact h.uf t e he
theorem RelX.mono {U' X':Nat→Prop} (h:RelX N G w0 v0 U X f l a w γ v ℓ) (hU:∀ k,U k→U' k) (hX:∀ k,X k→X' k):RelX N G w0 v0 U' X' f l a w γ v ℓ :=
 ⟨h.st,h.fr,h.lr,h.nd,λt e he=>⟨V.ok.mono hU (h.uf t e he).1,hX _ (h.uf t e he).2⟩,λe he=>⟨hX _ (h.ul e he).1,hX _ (h.ul e he).2.1,LV.ok.mono hU hX (h.ul e he).2.2⟩,λx y hg=>⟨(h.gh x y hg).1,V.ok.mono hU (h.gh x y hg).2⟩⟩
end
end Go.Eng
namespace Go.Eng
open Go.RowKit
theorem leaf_n:∀ i,(ZWm i).n=(T.leaf i).n
 | 0 | 1 | 2 | 3 | 4 | _+5=>rfl
theorem Zzx:∀ i,(ZWm i).agg=(T.leaf i).agg
 | 0 | 1 | 2 | 3 | 4 | _+5=>rfl
theorem ZW:∀ t:T,t.rep.n=t.n
 | .int _ | .bool | .flt _ | .str | .slice _ | .ptr _=>rfl
 | .one a=>ZW a
 | .pair a b=>by show a.rep.n+b.rep.n=a.n+b.n;rw[ZW a,ZW b]
 | .leaf i=>leaf_n i
theorem Z6t:∀ t:T,t.rep.agg=t.agg
 | .int _ | .bool | .flt _ | .str | .slice _ | .one _ | .pair _ _ | .ptr _=>rfl
 | .leaf i=>Zzx i
theorem Zaf (t:T) (x:t.den) (cs:List Value):(V.data t x).val cs=t.rep.val cs:=by
 unfold V.val Rep.val;rw[Z6t];rfl
section
variable {v:Zb} {γ:Nat→Gh} {l:Lo} {U:Nat→Prop}
theorem ZBd:∀ {x:V} {cs:List Value},RR v γ l false x cs→cs.length=x.size:=by
 intro x
 induction x with
 | data t x=>intro cs h;exact (Rep.len _ h).trans (ZW t)
 | nilS=>intro cs h;rw[show cs=_ from h];rfl
 | own u=>intro cs h;obtain⟨y,rfl,_⟩:=h;rfl
 | row u i hv cv t r=>intro cs h;obtain⟨y,rfl,_⟩:=h;rfl
 | ptr u off=>intro cs h;obtain⟨y,rfl,_⟩:=h;rfl
 | el u i cv t x off=>intro cs h;obtain⟨y,rfl,_⟩:=h;rfl
 | rp u i hv cv t r=>intro cs h;obtain⟨y,rfl,_⟩:=h;rfl
 | rel u i j hv cv t r x off=>intro cs h;obtain⟨y,rfl,_⟩:=h;rfl
 | vp t x off=>intro cs h;obtain⟨b,o,c,_,_,rfl⟩:=h;rfl
 | nl=>intro cs h;rw[show cs=_ from h];rfl
 | cons a b ia ib=>intro cs h;obtain⟨c1,c2,rfl,h1,h2⟩:=h;rw[lA,ia h1,ib h2];rfl
 | agg c ih=>intro cs h;exact ih h
 | tup c ih=>intro cs h;exact h.elim
 | fn f c ih=>intro cs h;obtain⟨vs,_,rfl⟩:=h;rfl
 | ifc ty c ih=>intro cs h;obtain⟨vs,_,rfl⟩:=h;rfl
 | undef=>intro cs h;rw[show cs=_ from h];rfl
theorem Zry:∀ {x:V} {cs:List Value},x.plain=true→RR v γ l false x cs→cs.all plain=true:=by
 intro x
 induction x with
 | data t x=>intro cs _ h;exact Rep.flat _ h
 | nilS=>intro cs _ h;rw[show cs=_ from h];rfl
 | own u=>intro cs _ h;obtain⟨y,rfl,hp,_⟩:=h;simp[hp]
 | row u i hv cv t r=>intro cs _ h;obtain⟨y,rfl,hp,_⟩:=h;simp[hp]
 | ptr u off=>intro cs _ h;obtain⟨y,rfl,hp,_⟩:=h;simp[hp]
 | el u i cv t x off=>intro cs _ h;obtain⟨y,rfl,hp,_⟩:=h;simp[hp]
 | rp u i hv cv t r=>intro cs _ h;obtain⟨y,rfl,hp,_⟩:=h;simp[hp]
 | rel u i j hv cv t r x off=>intro cs _ h;obtain⟨y,rfl,hp,_⟩:=h;simp[hp]
 | vp t x off=>intro cs _ h;obtain⟨b,o,c,_,_,rfl⟩:=h;rfl
 | nl=>intro cs _ h;rw[show cs=_ from h];rfl
 | cons a b ia ib =>
  intro cs hp h;obtain⟨c1,c2,rfl,h1,h2⟩:=h;simp only[V.plain]at hp
  cases ha:a.plain
  ·rw[ha]at hp;cases hp
  ·rw[ha]at hp;rw[List.all_append,ia ha h1,ib hp h2];rfl
 | agg c ih=>intro cs hp h;exact ih hp h
 | tup c ih=>intro cs _ h;exact h.elim
 | fn f c ih=>intro cs _ h;obtain⟨vs,_,rfl⟩:=h;rfl
 | ifc ty c ih=>intro cs _ h;obtain⟨vs,_,rfl⟩:=h;rfl
 | undef=>intro cs hp _;cases hp
theorem Z3m {a b:Bool} (h:eqB a b=true):a=b:=by cases a <;> cases b <;> first | rfl | cases h
theorem ZGg {x:V} {cs:List Value} (h:RR v γ l false x cs) (hs:x.size=1) (ha:x.isAgg=false):cs=[x.val cs]:=by
 have h1:=ZBd h;rw[hs]at h1;obtain⟨y,rfl⟩:=List.length_eq_one_iff.1 h1;unfold V.val;rw[ha];rfl
theorem Zjx:∀ {t:T} {x:t.den} {cs:List Value},t.rep.rel v cs x→RR v γ l false (ZQi t x) cs∧(ZQi t x).ok U:=by
 intro t
 induction t with
 | pair a b ia ib =>
  intro x cs h;obtain⟨c1,c2,rfl,h1,h2⟩:=h;exact⟨⟨c1,c2,rfl,h1,(ib h2).1⟩,trivial,(ib (x:=x.2) h2).2⟩
 | _=>intro x cs h;exact⟨⟨cs,[],by simp,h,rfl⟩,trivial,trivial⟩
theorem Zin {t:T} {x:t.den} {c:V} {cs:List Value} (h:Zme t x=some c) (hr:t.rep.rel v cs x):RR v γ l false c cs∧c.ok U:=by
 unfold Zme at h;split at h
 ·cases h;exact Zjx hr
 ·cases h;exact⟨⟨cs,[],by simp,hr,rfl⟩,trivial,trivial⟩
 ·rename_i i
  cases h
  have hr':Zrb.rel v cs i:=hr;obtain⟨s,q,n,k,rfl⟩:=ZDg hr';obtain⟨rfl,h2⟩:=Zds hr';exact⟨⟨[_],[_],rfl,rfl,[_],[],rfl,h2,rfl⟩,trivial,trivial,trivial⟩
 ·rename_i q
  cases h
  have hr':ZR.rel v cs q:=hr;obtain⟨s,q1,n,k,q2,n2,k2,rfl⟩:=Zuy hr';obtain⟨h1,h2⟩:=Zvx hr';exact⟨⟨[_,_],[_],rfl,h1,[_],[],rfl,h2,rfl⟩,trivial,trivial,trivial⟩
 ·rename_i q
  cases h
  have hr':rQ.rel v cs q:=hr;obtain⟨s,q1,n,k,q2,n2,k2,rfl⟩:=Z1v hr';obtain⟨rfl,h1,h2⟩:=rQ_open hr';exact⟨⟨[_],[_,_],rfl,rfl,[_],[_],rfl,h1,[_],[],rfl,h2,rfl⟩,trivial,trivial,trivial,trivial⟩
 ·cases h
theorem Z2p {t:T} {x:t.den} {c:V} {cs:List Value} (h:Zdc t x=some c) (hr:t.rep.rel v cs x):RR v γ l false c cs∧c.ok U:=by
 unfold Zdc at h;split at h
 ·cases h
  obtain⟨c1,c2,rfl,h1,h2⟩:=hr;exact⟨⟨c1,c2,rfl,h1,c2,[],by simp,h2,rfl⟩,trivial,trivial,trivial⟩
 ·exact Zin h hr
theorem Zey {t:T} {x:t.den} {c:V} (h:Zdc t x=some c):t.agg=true:=by
 unfold Zdc at h;split at h
 ·rfl
 ·unfold Zme at h;split at h <;> first | rfl | cases h
theorem ZYd:∀ (g:Nat) {x z:V} {off n:Nat} {ag:Bool} {cs:List Value},Zwa g x off n ag=some z→RR v γ l false x cs→x.ok U →
  RR v γ l false z ((cs.drop off).take n)∧z.ok U∧z.size=n∧z.isAgg=ag∧off+n≤cs.length
 | 0,_,_,_,_,_,_,h,_,_=>by cases h
 | g+1,x,z,off,n,ag,cs,h,hr,hk=>by
  have whole:∀ {y:V},(match Nat.beq off 0,Nat.beq y.size n,eqB y.isAgg ag with
    | true,true,true=>some y
    | _,_,_=>match y with
     | .agg c=>Zwa g c off n ag
     | .data t x=>match Zdc t x with
      | some c=>Zwa g c off n ag
      | none=>none
     | _=>none)=some z→RR v γ l false y cs→y.ok U→RR v γ l false z ((cs.drop off).take n)∧z.ok U∧z.size=n∧z.isAgg=ag∧off+n≤cs.length:=by
   intro y hy hr hk;split at hy
   ·rename_i h1 h2 h3
    cases hy
    have h1:=eQ h1;have h2:=eQ h2;have hl:=ZBd hr;subst h1;refine⟨?_,hk,h2,Z3m h3,by omega⟩;rw[List.drop_zero,List.take_of_length_le (by omega)];exact hr
   ·split at hy
    ·exact ZYd g hy hr hk
    ·split at hy
     ·rename_i he;obtain⟨h1,h2⟩:=Z2p (U:=U) he hr;exact ZYd g hy h1 h2
     ·cases hy
    ·cases hy
  cases x with
  | nl=>simp only[Zwa]at h;cases h
  | cons a b =>
   simp only[Zwa]at h;obtain⟨c1,c2,rfl,h1,h2⟩:=hr;have l1:=ZBd h1;split at h
   ·rename_i hb;have hb:=lB hb;obtain⟨k1,k2,k3,k4,k5⟩:=ZYd g h h1 hk.1;refine⟨?_,k2,k3,k4,by rw[lA];omega⟩;rw[List.drop_append_of_le_length (by omega),List.take_append_of_le_length (by rw[List.length_drop];omega)];exact k1
   ·split at h
    ·rename_i hb;have hb:=lB hb;obtain⟨k1,k2,k3,k4,k5⟩:=ZYd g h h2 hk.2;refine⟨?_,k2,k3,k4,by rw[lA];omega⟩;rw[List.drop_append,List.drop_of_length_le (by omega),List.nil_append,l1];exact k1
    ·cases h
  | data t x=>exact whole (y:=.data t x) h hr hk
  | agg c=>exact whole (y:=.agg c) h hr hk
  | nilS=>exact whole (y:=.nilS) h hr hk
  | own u=>exact whole (y:=.own u) h hr hk
  | row u i hv cv t r=>exact whole (y:=.row u i hv cv t r) h hr hk
  | ptr u o=>exact whole (y:=.ptr u o) h hr hk
  | el u i cv t x o=>exact whole (y:=.el u i cv t x o) h hr hk
  | rp u i hv cv t r=>exact whole (y:=.rp u i hv cv t r) h hr hk
  | rel u i j hv cv t r x o=>exact whole (y:=.rel u i j hv cv t r x o) h hr hk
  | vp t x o=>exact whole (y:=.vp t x o) h hr hk
  | tup c=>exact whole (y:=.tup c) h hr hk
  | fn f c=>exact whole (y:=.fn f c) h hr hk
  | ifc f c=>exact whole (y:=.ifc f c) h hr hk
  | undef=>exact whole (y:=.undef) h hr hk
theorem ZIf:∀ (g:Nat) {x z x':V} {off:Nat} {cs cz:List Value},Zjb g x off z=some x'→RR v γ l false x cs→RR v γ l false z cz→x.ok U→z.ok U →
  RR v γ l false x' (cs.take off++cz++cs.drop (off+cz.length))∧x'.ok U∧off+cz.length≤cs.length∧x'.isAgg=x.isAgg
 | 0,_,_,_,_,_,_,h,_,_,_,_=>by cases h
 | g+1,x,z,x',off,cs,cz,h,hr,hz,hk,hkz=>by
  have lz:=ZBd hz
  have whole:∀ {y:V},y.isAgg=x.isAgg→(match Nat.beq off 0,Nat.beq y.size z.size,eqB y.isAgg z.isAgg with
    | true,true,true=>some z
    | _,_,_=>match y with
     | .agg c=>match Zjb g c off z with
      | some c'=>some (.agg c')
      | none=>none
     | .data t x=>match Zdc t x with
      | some c=>match Zjb g c off z with
       | some c'=>some (.agg c')
       | none=>none
      | none=>none
     | _=>none)=some x'→(∀ t x,y = .data t x→∀ c,Zdc t x=some c→t.agg=true)→RR v γ l false y cs→y.ok U→RR v γ l false x' (cs.take off++cz++cs.drop (off+cz.length))∧x'.ok U∧off+cz.length≤cs.length∧x'.isAgg=x.isAgg:=by
   intro y hya hy hex hr hk;split at hy
   ·rename_i h1 h2 h3
    cases hy
    have h1:=eQ h1;have h2:=eQ h2;have hl:=ZBd hr;subst h1;refine⟨?_,hkz,by omega,(Z3m h3).symm.trans hya⟩;rw[List.take_zero,List.nil_append,List.drop_of_length_le (by omega),List.append_nil];exact hz
   ·split at hy
    ·split at hy
     ·rename_i he
      cases hy
      obtain⟨k1,k2,k3,k4⟩:=ZIf g he hr hz hk hkz;exact⟨k1,k2,k3,hya⟩
     ·cases hy
    ·rename_i t xx _;split at hy
     ·rename_i c hc;split at hy
      ·rename_i he
       cases hy
       obtain⟨h1,h2⟩:=Z2p (U:=U) hc hr;obtain⟨k1,k2,k3,k4⟩:=ZIf g he h1 hz h2 hkz;exact⟨k1,k2,k3,(hex t xx rfl _ hc).symm.trans hya⟩
      ·cases hy
     ·cases hy
    ·cases hy
  have noex:∀ {y:V},(∀ t x,y ≠ .data t x)→(∀ t x,y = .data t x→∀ c,Zdc t x=some c→t.agg=true):=λh t x e=>absurd e (h t x)
  cases x with
  | nl=>simp only[Zjb]at h;cases h
  | cons a b =>
   simp only[Zjb]at h;obtain⟨c1,c2,rfl,h1,h2⟩:=hr;have l1:=ZBd h1;split at h
   ·rename_i hb;have hb:=lB hb;split at h
    ·rename_i he
     cases h
     obtain⟨k1,k2,k3,k4⟩:=ZIf g he h1 hz hk.1 hkz;refine⟨⟨_,c2,?_,k1,h2⟩,⟨k2,hk.2⟩,by rw[lA];omega,rfl⟩;rw[List.take_append_of_le_length (by omega),List.drop_append_of_le_length (by omega)];simp
    ·cases h
   ·split at h
    ·rename_i hb;have hb:=lB hb;split at h
     ·rename_i he
      cases h
      obtain⟨k1,k2,k3,k4⟩:=ZIf g he h2 hz hk.2 hkz;refine⟨⟨c1,_,?_,h1,k1⟩,⟨hk.1,k2⟩,by rw[lA];omega,rfl⟩;rw[List.take_append,List.take_of_length_le (by omega),List.drop_append,List.drop_of_length_le (by omega),l1];rw[show off+cz.length-a.size=off-a.size+cz.length by omega];simp
     ·cases h
    ·cases h
  | data t xx=>exact whole (y:=.data t xx) rfl h (λt x e c hc=>by
    cases e
    exact Zey hc) hr hk
  | agg c=>exact whole (y:=.agg c) rfl h (noex λ_ _ e=>by cases e) hr hk
  | nilS=>exact whole (y:=.nilS) rfl h (noex λ_ _ e=>by cases e) hr hk
  | own u=>exact whole (y:=.own u) rfl h (noex λ_ _ e=>by cases e) hr hk
  | row u i hv cv t r=>exact whole (y:=.row u i hv cv t r) rfl h (noex λ_ _ e=>by cases e) hr hk
  | ptr u o=>exact whole (y:=.ptr u o) rfl h (noex λ_ _ e=>by cases e) hr hk
  | el u i cv t x o=>exact whole (y:=.el u i cv t x o) rfl h (noex λ_ _ e=>by cases e) hr hk
  | rp u i hv cv t r=>exact whole (y:=.rp u i hv cv t r) rfl h (noex λ_ _ e=>by cases e) hr hk
  | rel u i j hv cv t r x o=>exact whole (y:=.rel u i j hv cv t r x o) rfl h (noex λ_ _ e=>by cases e) hr hk
  | vp t x o=>exact whole (y:=.vp t x o) rfl h (noex λ_ _ e=>by cases e) hr hk
  | tup c=>exact whole (y:=.tup c) rfl h (noex λ_ _ e=>by cases e) hr hk
  | fn f c=>exact whole (y:=.fn f c) rfl h (noex λ_ _ e=>by cases e) hr hk
  | ifc f c=>exact whole (y:=.ifc f c) rfl h (noex λ_ _ e=>by cases e) hr hk
  | undef=>exact whole (y:=.undef) rfl h (noex λ_ _ e=>by cases e) hr hk
end
end Go.Eng
namespace Go.Eng
open Go.RowKit
def Zk {ρ:Type} (n:Nat):Ev ρ→Fr→Lo→(ρ→Fr→Lo→Prop)→Prop
 | .fail,_,_,_=>False
 | .done r,f,l,K=>K r f l
 | .rdS t k,f,l,K=>∃ e,lkE f t=some e∧Zk n (k e.x) f l K
 | .rdL u k,f,l,K=>∃ e,lkE l u=some e∧Zk n (k e.st e.x) f l K
 | .wrS t x e,f,l,K=>Zk n e (⟨t,n,x⟩ :: f) l K
 | .wrL u L e,f,l,K=>Zk n e f (⟨u,n,L⟩ :: era l u) K
 | .new u L e,f,l,K=>lkE l u=none∧Zk n e f (⟨u,n,L⟩ :: l) K
 | .del u e,f,l,K=>Zk n e f (era l u) K
 | .bind x k,f,l,K=>∃ y,x=some y∧Zk n (k y) f l K
 | .test t e1 e2,f,l,K=>∃ s b,lkE f t=some ⟨t,s,.data .bool b⟩∧(b=true→Zk n e1 (⟨t,s,.data .bool b⟩ :: f) l K)∧(b=false→Zk n e2 (⟨t,s,.data .bool b⟩ :: f) l K)
 | .alt b e1 e2,f,l,K=>(b=true→Zk n e1 f l K)∧(b=false→Zk n e2 f l K)
theorem Zbf {ρ α:Type} {n:Nat} {r:α}:∀ {e:Ev ρ} {f:Fr} {l:Lo} {K:ρ→Fr→Lo→Option α},ZQa n e f l K=some r→Zk n e f l λx f' l'=>K x f' l'=some r:=by
 intro e
 induction e with
 | fail=>intro f l K h;cases h
 | done x=>intro f l K h;exact h
 | rdS t k ih =>
  intro f l K h;simp only[ZQa]at h;split at h
  ·rename_i x hx;exact⟨x,hx,ih _ h⟩
  ·cases h
 | rdL u k ih =>
  intro f l K h;simp only[ZQa]at h;split at h
  ·rename_i x hx;exact⟨x,hx,ih _ _ h⟩
  ·cases h
 | wrS t x e ih=>intro f l K h;exact ih h
 | wrL u L e ih=>intro f l K h;exact ih h
 | new u L e ih =>
  intro f l K h;simp only[ZQa]at h;split at h
  ·rename_i hx;exact⟨hx,ih h⟩
  ·cases h
 | del u e ih=>intro f l K h;exact ih h
 | bind x k ih =>
  intro f l K h;obtain⟨y,hy,h2⟩:=Z6 h;exact⟨y,hy,ih _ h2⟩
 | test t e1 e2 i1 i2 =>
  intro f l K h;simp only[ZQa]at h;split at h
  ·rename_i k s b hx;obtain⟨_,hk⟩:=Zq hx;have hk:k=t:=hk;subst hk;refine⟨s,b,hx,λe=>?_,λe=>?_⟩
   ·subst e;exact i1 h
   ·subst e;exact i2 h
  ·cases h
 | alt b e1 e2 i1 i2=>intro f l K h;exact⟨λe=>by subst e;exact i1 h,λe=>by subst e;exact i2 h⟩
theorem Zk.mono {ρ:Type} {n:Nat}:∀ {e:Ev ρ} {f:Fr} {l:Lo} {K K':ρ→Fr→Lo→Prop},Zk n e f l K→(∀ r f l,K r f l→K' r f l)→Zk n e f l K':=by
 intro e
 induction e with
 | fail=>intro f l K K' h k;exact h
 | done x=>intro f l K K' h k;exact k _ _ _ h
 | rdS t q ih=>intro f l K K' h k;obtain⟨x,hx,h⟩:=h;exact⟨x,hx,ih _ h k⟩
 | rdL u q ih=>intro f l K K' h k;obtain⟨x,hx,h⟩:=h;exact⟨x,hx,ih _ _ h k⟩
 | wrS t x e ih=>intro f l K K' h k;exact ih h k
 | wrL u L e ih=>intro f l K K' h k;exact ih h k
 | new u L e ih=>intro f l K K' h k;exact⟨h.1,ih h.2 k⟩
 | del u e ih=>intro f l K K' h k;exact ih h k
 | bind x q ih=>intro f l K K' h k;obtain⟨x,hx,h⟩:=h;exact⟨x,hx,ih _ h k⟩
 | test t e1 e2 i1 i2 =>
  intro f l K K' h k;obtain⟨s,b,h1,h2,h3⟩:=h;exact⟨s,b,h1,λe=>i1 (h2 e) k,λe=>i2 (h3 e) k⟩
 | alt b e1 e2 i1 i2=>intro f l K K' h k;exact⟨λe=>i1 (h.1 e) k,λe=>i2 (h.2 e) k⟩
section
variable {N:Nat} {G:V→Value→Prop} {w0:Base} {v0:Zb} {U X:Nat→Prop} {f:Fr} {l:Lo} {a:Act} {w:World} {γ:Nat→Gh} {v:Zb} {ℓ:List Loc}
theorem Le.upd (h:RelX N G w0 v0 U X f l a w γ v ℓ) {u n:Nat} {e:En LV} {L':LV} {γ':Nat→Gh} {v':Zb} (hu:lkE l u=some e) (hv:v.le v') (hg:∀ k,k≠u→γ' k=γ k) (hc:CE U γ γ' u e.st n e.x L') :
  Le U v γ l v' γ' (⟨u,n,L'⟩ :: Go.Eng.era l u):=by
 obtain⟨E,hE,_⟩:=h.lr;refine⟨hv,λk e' _ he=>?_⟩;rw[ZN]at he;split at he
 ·rename_i hk
  cases he
  have hk:u=k:=hk;subst hk;exact⟨e,hu,hc⟩
 ·rename_i hk;have hk:¬ u=k:=hk;rw[Z6b h.nd,iN hk]at he;refine⟨e',he,?_⟩;obtain⟨hm,hk'⟩:=Zq he;obtain⟨es,hr⟩:=ZRe hE hm;have:=ZKg (U:=U) (γ':=γ') hr (hg _ (by rw[hk'];exact λe=>hk e.symm));rw[hk']at this;exact this
theorem CE.tr {γ1 γ2 γ3:Nat→Gh} {u s1 s2 s3:Nat} {x1 x2 x3:LV} (c1:CE U γ1 γ2 u s1 s2 x1 x2) (c2:CE U γ2 γ3 u s2 s3 x2 x3):CE U γ1 γ3 u s1 s3 x1 x3:=by
 have mm:∀ {t1 t2 t3:T} {m1:List (List t1.den)} {m2:List (List t2.den)} {m3:List (List t3.den)} {hv1 hv2 hv3:Nat},CEm U γ1 γ2 u s1 s2 t1 m1 hv1 t2 m2 hv2→CEm U γ2 γ3 u s2 s3 t2 m2 hv2 t3 m3 hv3→CEm U γ1 γ3 u s1 s3 t1 m1 hv1 t3 m3 hv3:=by
  rintro t1 t2 t3 m1 m2 m3 hv1 hv2 hv3 ⟨a1,a2,⟨ob,cap,rows,rows',a3,a4,a5⟩,a6⟩ ⟨b1,b2,⟨ob2,cap2,rows2,rows3,b3,b4,b5⟩,b6⟩;rw[a4]at b3;cases b3;refine⟨b1.trans a1,by omega,⟨_,_,rows,rows3,a3,b4,λhu=>?_⟩,λhu=>?_⟩
  ·obtain⟨e1,e2,e3⟩:=b5 hu;obtain⟨g1,g2,g3⟩:=a5 (by rw[← e1];exact hu);exact⟨e1.trans g1,e2.trans g2,e3.trans g3⟩
  ·obtain⟨e1,e2⟩:=b6 hu;have:=a6 (by rw[← e1];exact hu);exact⟨e1.trans this.1,e2.trans this.2⟩
 have mo:∀ {t1 t2 t3:T} {m1:List (List t1.den)} {m2:List (List t2.den)} {xs:List t3.den} {hv1 hv2:Nat},CEm U γ1 γ2 u s1 s2 t1 m1 hv1 t2 m2 hv2→(∃ ob cap rows,γ2 u = .mat ob cap rows∧γ3 u = .own ob cap∧xs.length=m2.length)→∃ ob cap rows,γ1 u = .mat ob cap rows∧γ3 u = .own ob cap∧xs.length=m1.length:=by
  rintro t1 t2 t3 m1 m2 xs hv1 hv2 ⟨a1,a2,⟨ob,cap,rows,rows',a3,a4,_⟩,_⟩ ⟨ob2,cap2,rows2,b1,b2,b3⟩;rw[a4]at b1;cases b1;exact⟨_,_,rows,a3,b2,by omega⟩
 have oo:∀ {t1 t2 t3:T} {m1:List (List t1.den)} {xs2:List t2.den} {xs3:List t3.den},(∃ ob cap rows,γ1 u = .mat ob cap rows∧γ2 u = .own ob cap∧xs2.length=m1.length)→(γ3 u=γ2 u∧t3=t2∧xs3.length=xs2.length∧(U s3→s3=s2∧(⟨t3,xs3⟩:(t:T)×List t.den)=⟨t2,xs2⟩))→∃ ob cap rows,γ1 u = .mat ob cap rows∧γ3 u = .own ob cap∧xs3.length=m1.length:=by
  rintro t1 t2 t3 m1 xs2 xs3 ⟨ob,cap,rows,a1,a2,a3⟩ ⟨b1,b2,b3,b4⟩;exact⟨ob,cap,rows,a1,by rw[b1,a2],by omega⟩
 cases x1 <;> cases x2 <;> simp only[CE]at c1 <;> cases x3 <;> simp only[CE]at c2 ⊢
 ·rw[c2,c1]
 ·obtain⟨a1,a2,a3,a4⟩:=c1;obtain⟨b1,b2,b3,b4⟩:=c2;refine⟨b1.trans a1,b2.trans a2,b3.trans a3,λhu=>?_⟩;obtain⟨e1,e2⟩:=b4 hu;have:=a4 (by rw[← e1];exact hu);exact⟨e1.trans this.1,e2.trans this.2⟩
 all_goals first | exact mm c1 c2 | exact mo c1 c2 | exact oo c1 c2
theorem Le.trans {v1 v2 v3:Zb} {γ1 γ2 γ3:Nat→Gh} {l1 l2 l3:Lo} (h:Le U v1 γ1 l1 v2 γ2 l2) (k:Le U v2 γ2 l2 v3 γ3 l3):Le U v1 γ1 l1 v3 γ3 l3:=by
 refine⟨Zb.le_trans h.v k.v,λu e3 hU he=>?_⟩;obtain⟨e2,h2,c2⟩:=k.l u e3 hU he;obtain⟨e1,h1,c1⟩:=h.l u e2 hU h2;refine⟨e1,h1,?_⟩;exact CE.tr c1 c2
theorem Zju {ty:TypeId} {t:T}:∀ {rows:List (Option Nat×Nat)} {m:List (List t.den)} {es rest:List Loc} {v:Zb},Zua v ty t rows m es→St N w0 v0 [] (es++rest) v a w →
  ∃ v',v.le v'∧St N w0 v0 [] rest v' a w∧(ZG t.rep).rels v' (Zo rows m) m
 | [],[],es,rest,v,hr,hs=>by rw[show es=[] from hr]at hs;exact⟨v,Zb.le_refl _,hs,rfl⟩
 | p :: ps,r :: rs,es,rest,v,⟨cs,es',h1,h2,h3⟩,hs=>by
  subst h2
  obtain⟨v1,hv1,hs1,hr1⟩:=hs.pubSlice (i:=0) (A:=t.rep) (l:=r) rfl (ZW t).symm rfl h1 rfl
  obtain⟨v2,hv2,hs2,hr2⟩:=Zju (ZVc hv1 h3) hs1
  exact⟨v2,Zb.le_trans hv1 hv2,hs2,[_],_,rfl,Rep.mono _ hv2 hr1,hr2⟩
 | [],_ :: _,_,_,_,hr,_=>hr.elim
 | _ :: _,[],_,_,_,hr,_=>hr.elim
theorem RelX.freeze (h:RelX N G w0 v0 U X f l a w γ v ℓ) {u n k st:Nat} {ty:TypeId} {t:T} {xs:List t.den} {ex:List Loc} (hex:St N w0 v0 [] (ex++ℓ) v a w) (hu:lkE l u=some ⟨k,st,.own ty t xs false⟩) (hn:¬ U n) (hX:X n) :
  ∃ v' ℓ' ,RelX N G w0 v0 U X f (⟨u,n,.own ty t xs true⟩ :: era l u) a w γ v' ℓ'∧St N w0 v0 [] (ex++ℓ') v' a w∧Le U v γ l v' γ (⟨u,n,.own ty t xs true⟩ :: era l u)∧∃ ob cap,γ u = .own ob cap∧(ZG t.rep).rel v' [.slice (mkA ob) xs.length cap] xs:=by
 obtain⟨hm,hk⟩:=Zq hu;have hk:k=u:=hk;subst hk;obtain⟨es,E',h1,h2,_,h3,_⟩:=h.del hu;obtain⟨ob,cap,cs,g1,g2,rfl⟩:=h1;have hs:St N w0 v0 [] (.own ob ty t.n xs.length cap cs :: (ex++E'.flatten)) v a w:=hex.perm ((List.Perm.append_left ex h3).trans (by rw[List.singleton_append];exact List.perm_middle));obtain⟨v',hv,hx',hr⟩:=hs.pubSlice (i:=0) (A:=t.rep) (l:=xs) rfl (ZW t).symm rfl g2 rfl;have hx':St N w0 v0 [] (ex++E'.flatten) v' a w:=hx';have hs':St N w0 v0 [] E'.flatten v' a w:=hx'.drop (List.sublist_append_right _ _);have hle:Le U v γ l v' γ (⟨k,n,.own ty t xs true⟩ :: era l k):=Le.upd h hu hv (λ_ _=>rfl) ⟨rfl,rfl,rfl,λe=>absurd e hn⟩;exact⟨v',_,h.upd hX (h.ul _ hm).1 h2 hs' hle (λ_ _=>rfl) ⟨ob,cap,g1,hr,rfl⟩ (List.Perm.refl _) trivial,hx',hle,ob,cap,g1,hr⟩
def ZBb (γ:Nat→Gh) (u:Nat) (g:Gh):Nat→Gh:=λk=>if k=u then g else γ k
theorem ZWa {γ:Nat→Gh} {u:Nat} {g:Gh}:ZBb γ u g u=g:=iP rfl
theorem Z5b {γ:Nat→Gh} {u k:Nat} {g:Gh} (h:k≠u):ZBb γ u g k=γ k:=iN h
theorem RelX.freezeM (h:RelX N G w0 v0 U X f l a w γ v ℓ) {u n k st hv:Nat} {ty ty2:TypeId} {t:T} {m:List (List t.den)} {ex:List Loc} (hex:St N w0 v0 [] (ex++ℓ) v a w) (hu:lkE l u=some ⟨k,st,.mat ty ty2 t m hv⟩) (hn:¬ U n) (hX:X n) :
  ∃ γ' v' ℓ' ,RelX N G w0 v0 U X f (⟨u,n,.own ty (.slice t) m true⟩ :: era l u) a w γ' v' ℓ'∧St N w0 v0 [] (ex++ℓ') v' a w∧Le U v γ l v' γ' (⟨u,n,.own ty (.slice t) m true⟩ :: era l u)∧∃ ob cap rows,γ u = .mat ob cap rows∧γ' u = .own ob cap∧(ZG (ZG t.rep)).rel v' [.slice (mkA ob) m.length cap] m:=by
 obtain⟨hm,hk⟩:=Zq hu;have hk:k=u:=hk;subst hk;obtain⟨es,E',h1,h2,_,h3,_⟩:=h.del hu;obtain⟨ob,cap,rows,es2,g1,g2,rfl⟩:=h1;have hs:St N w0 v0 [] (es2++(.own ob ty 1 m.length cap (Zo rows m) :: (ex++E'.flatten))) v a w:=hex.perm ((List.Perm.append_left ex h3).trans (by
  rw[List.cons_append];refine List.perm_middle.trans ?_;refine (List.Perm.cons _ ?_).trans List.perm_middle.symm;rw[← aAq,← aAq];exact List.Perm.append_right _ List.perm_append_comm))
 obtain⟨v1,hv1,hs1,hr1⟩:=Zju g2 hs;obtain⟨v',hv,hx',hr⟩:=hs1.pubSlice (i:=0) (A:=ZG t.rep) (l:=m) rfl rfl rfl hr1 rfl;have hx':St N w0 v0 [] (ex++E'.flatten) v' a w:=hx';have hs':St N w0 v0 [] E'.flatten v' a w:=hx'.drop (List.sublist_append_right _ _);have hle:Le U v γ l v' (ZBb γ k (.own ob cap)) (⟨k,n,.own ty (.slice t) m true⟩ :: era l k):=Le.upd h hu (Zb.le_trans hv1 hv) (λ_ hne=>Z5b hne) ⟨ob,cap,rows,g1,ZWa,rfl⟩;refine⟨_,v',_,h.upd hX (h.ul _ hm).1 h2 hs' hle (λ_ hne=>Z5b hne) ⟨ob,cap,ZWa,hr,rfl⟩ (List.Perm.refl _) trivial,hx',hle,ob,cap,rows,g1,ZWa,hr⟩
theorem Z3 {s t:T} {x:s.den} {y:t.den} (h:T.cast s t x=some y):∃ e:s=t,e ▸ x=y:=by
 unfold T.cast at h;have:∀ (b:Bool) (hb:T.beq s t=b),T.castB s t b hb x=some y→∃ e:s=t,e ▸ x=y:=by
  intro b hb h
  cases b with
  | true=>exact⟨T.beq_eq hb,Option.some.inj h⟩
  | false=>cases h
 exact this _ _ h
theorem Zmw:∀ {t:T} {x:t.den},(ZQi t x).ok U:=by
 intro t
 induction t with
 | pair a b ia ib=>intro x;exact⟨trivial,ib (x:=x.2)⟩
 | _=>intro x;exact⟨trivial,trivial⟩
theorem Zsr {t:T} {x:t.den} {c:V} (h:Zme t x=some c):c.ok U:=by
 unfold Zme at h;split at h
 ·cases h;exact Zmw
 ·cases h;exact⟨trivial,trivial⟩
 ·cases h;exact⟨trivial,trivial,trivial⟩
 ·cases h;exact⟨trivial,trivial,trivial⟩
 ·cases h;exact⟨trivial,trivial,trivial,trivial⟩
 ·cases h
theorem ZPt {t:T} {x:t.den} {c:V} (h:Zdc t x=some c):c.ok U:=by
 unfold Zdc at h;split at h
 ·cases h;exact⟨trivial,trivial,trivial⟩
 ·exact Zsr h
theorem ZBr {v:Zb} {s t:T} {x:s.den} {y:t.den} {cs:List Value} (hr:s.rep.rel v cs x) (h:cvtQ s t x=some y):t.rep.rel v cs y∧s.rep.n=t.rep.n:=by
 unfold cvtQ at h;split at h
 ·rename_i hc
  cases h
  obtain⟨e,he⟩:=Z3 hc;subst e;subst he;exact⟨hr,rfl⟩
 ·split at h
  ·rename_i r hr1;obtain⟨e,he⟩:=Z3 hr1;subst e;subst he;split at h
   ·rename_i q hq;obtain⟨e,he⟩:=Z3 h;subst e;subst he;obtain⟨c1,c2,rfl,h1,c3,c4,rfl,h2,h3⟩:=hr;have h1:c1=[.bool _]:=h1;subst h1;have h2:Zbb.rel v c3 _:=h2;have h3:Zbb.rel v c4 _:=h3;obtain⟨qa,na,ka,rfl⟩:=ZPd h2;obtain⟨qb,nb,kb,rfl⟩:=ZPd h3;exact⟨ZNo h2 h3 hq,rfl⟩
   ·cases h
  ·cases h
theorem Zqn {α β:Type} {p:Option α} {q:Option β} {z:α×β} (h:ZVh p q=some z):p=some z.1∧q=some z.2:=by
 cases p <;> cases q <;> first | (cases h;done) | (cases h;exact⟨rfl,rfl⟩)
theorem cvt_ok {v:Zb}:∀ {s t:T} {x:s.den} {y:t.den} {cs:List Value},s.rep.rel v cs x→cvt s t x=some y→t.rep.rel v cs y∧s.rep.n=t.rep.n:=by
 intro s
 induction s with
 | pair a b ia ib =>
  intro t x y cs hr h
  cases t with
  | pair c d =>
   obtain⟨h1,h2⟩:=Zqn (show ZVh (cvt a c x.1) (cvt b d x.2)=some y from h);obtain⟨c1,c2,rfl,q1,q2⟩:=hr;obtain⟨k1,k2⟩:=ia q1 h1;obtain⟨k3,k4⟩:=ib q2 h2;exact⟨⟨c1,c2,rfl,k1,k3⟩,by show _+_=_+_;rw[k2,k4]⟩
  | _=>exact ZBr hr h
 | _=>intro t x y cs hr h;exact ZBr hr h
theorem Ztp {v:Zb} {s t:T}:∀ {l:List s.den} {l':List t.den} {cs:List Value},s.rep.rels v cs l→cvtL s t l=some l'→t.rep.rels v cs l'∧l'.length=l.length∧(l≠[]→s.rep.n=t.rep.n)
 | [],_,cs,hr,h=>by cases h;exact⟨hr,rfl,λe=>absurd rfl e⟩
 | x :: l,_,cs,hr,h=>by
  simp only[cvtL]at h
  split at h
  ·rename_i y z h1 h2
   cases h
   obtain⟨c1,c2,rfl,q1,q2⟩:=hr
   obtain⟨k1,k2⟩:=cvt_ok q1 h1
   obtain⟨k3,k4,_⟩:=Ztp q2 h2
   exact⟨⟨c1,c2,rfl,k1,k3⟩,by simp[k4],λ_=>k2⟩
  ·cases h
theorem Z3w {v:Zb} {s t:T} {l:List s.den} {l':List t.den} {cs:List Value} (hr:(ZG s.rep).rel v cs l) (h:cvtL s t l=some l'):(ZG t.rep).rel v cs l':=by
 obtain⟨q,cap,rfl,h1,h2,h3⟩:=hr;rcases h3 with rfl | ⟨b,off,c,T',fr,e,hb,hk⟩
 ·cases h;exact⟨q,cap,rfl,h1,h2,.inl rfl⟩
 ·obtain⟨k1,k2,k3⟩:=Ztp hk h;refine⟨q,cap,by rw[k2],by omega,h2,?_⟩;by_cases hl:l=[]
  ·subst hl;cases h;exact .inl rfl
  ·exact .inr ⟨b,off,c,T',fr,e,hb,by rw[k2,← k3 hl];exact k1⟩
theorem RelX.go (h:RelX N G w0 v0 U X f l a w γ v ℓ) {v':Zb} {w':World} (hle:v.le v') (hst:St N w0 v0 [] ℓ v' a w'):RelX N G w0 v0 U X f l a w' γ v' ℓ:=by
 obtain⟨E,hE,hp⟩:=h.lr;have hl:Le U v γ l v' γ l:=Le.refl hE hle;exact⟨hst,λt e he=>Zob hl (h.uf t e he).1 (h.fr t e he),⟨E,hE.imp λe he es hr=>ZJh hl (h.ul e he).2.2 rfl hr,hp⟩,h.nd,h.uf,h.ul,λx y hg=>⟨Zob hl (h.gh x y hg).2 (h.gh x y hg).1,(h.gh x y hg).2⟩⟩
theorem Zpb {ρ:Type} {n:Nat} (hn:¬ U n) (hX:X n):∀ (g:Nat) {t:T} {x:V} {k:t.den→Ev ρ} {l:Lo} {Post:ρ→Fr→Lo→Prop} {γ:Nat→Gh} {v:Zb} {ℓ ex:List Loc},Zk n (conv g t x k) f l Post→RelX N G w0 v0 U X f l a w γ v ℓ→St N w0 v0 [] (ex++ℓ) v a w→x.ok U →
  ∃ y l' γ' v' ℓ',Zk n (k y) f l' Post∧RelX N G w0 v0 U X f l' a w γ' v' ℓ'∧St N w0 v0 [] (ex++ℓ') v' a w∧Le U v γ l v' γ' l'∧∀ cs,RR v γ l false x cs→t.rep.rel v' cs y
 | 0,_,_,_,_,_,_,_,_,_,h,_,_,_=>h.elim
 | g+1,t,x,k,l,Post,γ,v,ℓ,ex,h,hr,e0,hk=>by
  obtain⟨E,hE,_⟩:=hr.lr
  have rfl':Le U v γ l v γ l:=Le.refl hE (Zb.le_refl _)
  cases x with
  | data s x =>
   simp only[conv]at h
   split at h
   ·rename_i y hy
    obtain⟨e,he⟩:=Z3 hy
    subst e;subst he
    exact⟨_,l,γ,v,ℓ,h,hr,e0,rfl',λcs hx=>hx⟩
   ·split at h
    ·exact⟨_,l,γ,v,ℓ,h,hr,e0,rfl',λcs hx=>hx⟩
    ·exact⟨_,l,γ,v,ℓ,h,hr,e0,rfl',λcs hx=>hx⟩
    ·obtain⟨y,hy,h⟩:=h;exact⟨y,l,γ,v,ℓ,h,hr,e0,rfl',λcs hx=>clo_rel hx hy⟩
    ·obtain⟨y,hy,h⟩:=h;exact⟨y,l,γ,v,ℓ,h,hr,e0,rfl',λcs hx=>Zsw hx hy⟩
    ·obtain⟨y,hy,h⟩:=h;exact⟨y,l,γ,v,ℓ,h,hr,e0,rfl',λcs hx=>Z3w hx hy⟩
    ·split at h
     ·rename_i c hc
      obtain⟨y,l2,γ2,v2,ℓ2,k1,k2,e2,k3,k4⟩:=Zpb hn hX g h hr e0 (x:=.agg c) (Zsr (c:=c) (t:=s) (x:=x) hc:c.ok U)
      exact⟨y,l2,γ2,v2,ℓ2,k1,k2,e2,k3,λcs hx=>k4 cs (Zin (U:=U) (γ:=γ) (l:=l) hc hx).1⟩
     ·exact h.elim
  | nilS =>
   simp only[conv]at h
   split at h
   ·exact⟨_,l,γ,v,ℓ,h,hr,e0,rfl',λcs hx=>by rw[show cs=_ from hx];exact Zhj _ _⟩
   ·exact⟨_,l,γ,v,ℓ,h,hr,e0,rfl',λcs hx=>by rw[show cs=_ from hx];exact ZNg _⟩
   ·exact⟨_,l,γ,v,ℓ,h,hr,e0,rfl',λcs hx=>by rw[show cs=_ from hx];exact Zjl _⟩
   ·exact h.elim
  | own u =>
   simp only[conv]at h
   obtain⟨e,he,h⟩:=h
   obtain⟨kk,st,L⟩:=e
   obtain⟨hm,hkk⟩:=Zq he
   have hkk:kk=u:=hkk
   subst hkk
   cases L with
   | box _ _=>exact h.elim
   | mid _ _ _ _ _ _=>exact h.elim
   | own ty s xs fz =>
    cases fz with
    | true =>
     obtain⟨es,hes⟩:=ZRe hE hm
     obtain⟨ob,cap,g1,g2,_⟩:=hes
     have g1:γ kk = .own ob cap:=g1
     obtain⟨y,l2,γ2,v2,ℓ2,k1,k2,e2,k3,k4⟩:=Zpb hn hX g h hr e0 (x:=.data (.slice s) xs) trivial
     refine⟨y,l2,γ2,v2,ℓ2,k1,k2,e2,k3,λcs hx=>?_⟩
     obtain⟨y',rfl,hp,hy⟩:=hx
     obtain⟨ob',cap',g3,g4⟩:=hy _ he
     rw[g1]at g3;cases g3
     subst g4
     exact k4 _ g2
    | false =>
     obtain⟨v',ℓ',f1,e1,f2,ob,cap,g1,g2⟩:=hr.freeze e0 he hn hX
     obtain⟨y,l2,γ2,v2,ℓ2,k1,k2,e2,k3,k4⟩:=Zpb hn hX g h f1 e1 (x:=.data (.slice s) xs) trivial
     refine⟨y,l2,γ2,v2,ℓ2,k1,k2,e2,f2.trans k3,λcs hx=>?_⟩
     obtain⟨y',rfl,hp,hy⟩:=hx
     obtain⟨ob',cap',g3,g4⟩:=hy _ he
     rw[g1]at g3;cases g3
     subst g4
     exact k4 _ g2
   | mat ty _ s m _ =>
    obtain⟨γ',v',ℓ',f1,e1,f2,ob,cap,rows,g1,g1',g2⟩:=hr.freezeM e0 he hn hX
    obtain⟨y,l2,γ2,v2,ℓ2,k1,k2,e2,k3,k4⟩:=Zpb hn hX g h f1 e1 (x:=.data (.slice (.slice s)) m) trivial
    refine⟨y,l2,γ2,v2,ℓ2,k1,k2,e2,f2.trans k3,λcs hx=>?_⟩
    obtain⟨y',rfl,hp,hy⟩:=hx
    obtain⟨ob',cap',rows',g3,g4⟩:=hy _ he
    rw[g1]at g3;cases g3
    subst g4
    exact k4 _ g2
  | agg c =>
   cases c with
   | cons x1 c =>
    cases c with
    | cons x2 r =>
     have hk1:x1.ok U:=hk.1
     have hk2:x2.ok U:=hk.2.1
     have hk3:r.ok U:=hk.2.2
     simp only[conv]at h
     split at h
     · -- an integer
      obtain⟨s,l1,γ1,v1,ℓ1,h,r1,e1,le1,q1⟩:=Zpb hn hX g h hr e0 hk1
      obtain⟨m,l2,γ2,v2,ℓ2,h,r2,e2,le2,q2⟩:=Zpb hn hX g h r1 e1 hk2
      obtain⟨y,hy,h⟩:=h
      refine⟨y,l2,γ2,v2,ℓ2,h,r2,e2,le1.trans le2,λcs hx=>?_⟩
      obtain⟨c1,c2',rfl,hx1,c2,c3,rfl,hx2,hx3⟩:=hx
      have hx3:c3=[]:=hx3
      subst hx3
      have q1:=q1 _ hx1
      have q2:=q2 _ (ZEb le1 hk2 hx2)
      have q1:c1=[.bool s]:=Rep.mono Zyb le2.v q1
      subst q1
      have q2:Zx.rel v2 c2 m:=q2
      obtain⟨qa,na,ka,rfl⟩:=ZKa q2
      exact ZWw q2 hy
     · -- a fraction
      obtain⟨s,l1,γ1,v1,ℓ1,h,r1,e1,le1,q1⟩:=Zpb hn hX g h hr e0 hk1
      obtain⟨m,l2,γ2,v2,ℓ2,h,r2,e2,le2,q2⟩:=Zpb hn hX g h r1 e1 hk2
      obtain⟨y,hy,h⟩:=h
      refine⟨y,l2,γ2,v2,ℓ2,h,r2,e2,le1.trans le2,λcs hx=>?_⟩
      obtain⟨c1,c2',rfl,hx1,c2,c3,rfl,hx2,hx3⟩:=hx
      have hx3:c3=[]:=hx3
      subst hx3
      have q1:=q1 _ hx1
      have q2:=q2 _ (ZEb le1 hk2 hx2)
      have q1:Zrb.rel v2 c1 s:=Rep.mono Zrb le2.v q1
      obtain⟨sb,qb,nb,kb,rfl⟩:=ZDg q1
      have q2:Zx.rel v2 c2 m:=q2
      obtain⟨qa,na,ka,rfl⟩:=ZKa q2
      exact ZAp q1 q2 hy
     · -- the reference's fraction
      rename_i x3 _
      have hk4:x3.ok U:=hk3.1
      obtain⟨s,l1,γ1,v1,ℓ1,h,r1,e1,le1,q1⟩:=Zpb hn hX g h hr e0 hk1
      obtain⟨m,l2,γ2,v2,ℓ2,h,r2,e2,le2,q2⟩:=Zpb hn hX g h r1 e1 hk2
      obtain⟨d,l3,γ3,v3,ℓ3,h,r3,e3,le3,q3⟩:=Zpb hn hX g h r2 e2 hk4
      obtain⟨y,hy,h⟩:=h
      refine⟨y,l3,γ3,v3,ℓ3,h,r3,e3,(le1.trans le2).trans le3,λcs hx=>?_⟩
      obtain⟨c1,c2',rfl,hx1,c2,c3,rfl,hx2,hx3⟩:=hx
      obtain⟨c4,c5,rfl,hx4,hx5⟩:=hx3
      have hx5:c5=[]:=hx5
      subst hx5
      have q1:=q1 _ hx1
      have q2:=q2 _ (ZEb le1 hk2 hx2)
      have q3:=q3 _ (ZEb (le1.trans le2) hk4 hx4)
      have q1:c1=[.bool s]:=q1
      subst q1
      have q2:Zbb.rel v3 c2 m:=Rep.mono Zbb le3.v q2
      obtain⟨qa,na,ka,rfl⟩:=ZPd q2
      have q3:Zbb.rel v3 c4 d:=q3
      obtain⟨qb,nb,kb,rfl⟩:=ZPd q3
      exact ZNo q2 q3 hy
     ·obtain⟨y1,l1,γ1,v1,ℓ1,h,r1,e1,le1,q1⟩:=Zpb hn hX g h hr e0 hk1
      obtain⟨y2,l2,γ2,v2,ℓ2,h,r2,e2,le2,q2⟩:=Zpb hn hX g h r1 e1 hk2
      refine⟨_,l2,γ2,v2,ℓ2,h,r2,e2,le1.trans le2,λcs hx=>?_⟩
      obtain⟨c1,c2',rfl,hx1,c2,c3,rfl,hx2,hx3⟩:=hx
      have hx3:c3=[]:=hx3
      subst hx3
      exact⟨c1,c2,by simp,Rep.mono _ le2.v (q1 _ hx1),q2 _ (ZEb le1 hk2 hx2)⟩
     ·obtain⟨y1,l1,γ1,v1,ℓ1,h,r1,e1,le1,q1⟩:=Zpb hn hX g h hr e0 hk1
      obtain⟨y2,l2,γ2,v2,ℓ2,h,r2,e2,le2,q2⟩:=Zpb hn hX g h r1 e1 (x:=.agg (.cons x2 r)) ⟨hk2,hk3⟩
      refine⟨_,l2,γ2,v2,ℓ2,h,r2,e2,le1.trans le2,λcs hx=>?_⟩
      obtain⟨c1,c2',rfl,hx1,c2,c3,rfl,hx2,hx3⟩:=hx
      exact⟨c1,c2++c3,rfl,Rep.mono _ le2.v (q1 _ hx1),q2 _ (ZEb le1 (x:=.agg (.cons x2 r)) ⟨hk2,hk3⟩ (m:=false) ⟨c2,c3,rfl,hx2,hx3⟩)⟩
     ·exact h.elim
    | nl =>
     simp only[conv]at h
     split at h
     ·obtain⟨y1,l1,γ1,v1,ℓ1,h,r1,e1,le1,q1⟩:=Zpb hn hX g h hr e0 hk.1
      refine⟨_,l1,γ1,v1,ℓ1,h,r1,e1,le1,λcs hx=>?_⟩
      obtain⟨c1,c2,rfl,hx1,hx2⟩:=hx
      have hx2:c2=[]:=hx2
      subst hx2
      rw[List.append_nil];exact q1 _ hx1
     ·exact h.elim
    | _=>simp only[conv]at h;exact h.elim
   | _=>simp only[conv]at h;exact h.elim
  | ptr u off =>
   cases off with
   | succ _=>simp only[conv]at h;exact h.elim
   | zero =>
    simp only[conv]at h
    split at h
    ·obtain⟨⟨k0,st0,L⟩,he,h⟩:=h
     have hkk:k0=u:=(Zq he).2
     subst hkk
     cases L with
     | box ty0 c =>
      simp only at h
      obtain⟨es,E',h1,_,_,h3,_⟩:=hr.del he
      obtain⟨b',cs,g2,g3,g4,rfl⟩:=h1
      have g2:γ k0 = .box b':=g2
      obtain⟨x1,l1,γ1,v1,ℓ1,hB,r1,e1,le1,q1⟩:=Zpb hn hX g h hr e0 (hr.ul _ (Zq he).1).2.2
      obtain⟨⟨k1,st1,L1⟩,he1,hC⟩:=hB
      have hkk1:k1=k0:=(Zq he1).2
      subst hkk1
      cases L1 with
      | box ty1 c1 =>
       obtain⟨e0',he0,hce⟩:=le1.l _ _ hk he1
       rw[he]at he0;cases he0
       have hce:γ1 k1=γ k1:=hce
       obtain⟨es1,E1,f1,_,_,f3,r2⟩:=r1.del he1
       obtain⟨b1,cs1,f4,f5,f6,rfl⟩:=f1
       have f4:γ1 k1 = .box b1:=f4
       rw[hce,g2]at f4;cases f4
       have m0:=(hr.st.loc _ (h3.mem_iff.2 (List.mem_append_left _ (List.mem_singleton.2 rfl)))).1
       have m1:=(r1.st.loc _ (f3.mem_iff.2 (List.mem_append_left _ (List.mem_singleton.2 rfl)))).1
       have m0:w.heap[b']? = some (.cells cs.toArray ty0 (0,0)):=m0
       have m1:w.heap[b']? = some (.cells cs1.toArray ty1 (0,0)):=m1
       rw[m0]at m1
       have hcs:cs=cs1:=by
        have:=Option.some.inj m1
        injection this with h1 _ _
        have:=congrArg Array.toList h1
        simpa using this
       subst hcs;have e2:St N w0 v0 [] (.box b' ty1 cs :: (ex++E1.flatten)) v1 a w:=e1.perm ((List.Perm.append_left ex f3).trans List.perm_middle);obtain⟨v',hv,hs1,hAt⟩:=e2.pubVar (i:=0) rfl rfl;have hs1:St N w0 v0 [] (ex++E1.flatten) v' a w:=hs1;have r3:=r2.go hv (hs1.drop (List.sublist_append_right _ _));obtain⟨E3,hE3,_⟩:=r2.lr;refine⟨x1,_,γ1,v',_,hC,r3,hs1,(le1.trans (Le.era r1 k1)).trans (Le.refl hE3 hv),λcs' hx=>?_⟩;obtain⟨y',rfl,_,hy⟩:=hx;obtain⟨b2,g5,rfl⟩:=hy _ he;rw[g2]at g5;cases g5;exact rPtr_mk hAt (Rep.mono _ hv (q1 _ g3))
      | own _ _ _ _=>exact hC.elim
      | mid _ _ _ _ _ _=>exact hC.elim
      | mat _ _ _ _ _=>exact hC.elim
     | own _ _ _ _=>exact h.elim
     | mid _ _ _ _ _ _=>exact h.elim
     | mat _ _ _ _ _=>exact h.elim
    ·exact h.elim
  | _=>simp only[conv]at h;exact h.elim
theorem Zkd {ρ:Type} {n:Nat} (hn:¬ U n) (hX:X n) (g:Nat) {t:T} {x:V} {k:t.den→Ev ρ} {l:Lo} {Post:ρ→Fr→Lo→Prop} {γ:Nat→Gh} {v:Zb} {ℓ:List Loc} (h:Zk n (conv g t x k) f l Post) (hr:RelX N G w0 v0 U X f l a w γ v ℓ) (hk:x.ok U) :
  ∃ y l' γ' v' ℓ',Zk n (k y) f l' Post∧RelX N G w0 v0 U X f l' a w γ' v' ℓ'∧Le U v γ l v' γ' l'∧∀ cs,RR v γ l false x cs→t.rep.rel v' cs y:=by
 obtain⟨y,l',γ',v',ℓ',h1,h2,_,h3,h4⟩:=Zpb (ex:=[]) hn hX g h hr hr.st hk;exact⟨y,l',γ',v',ℓ',h1,h2,h3,h4⟩
end
end Go.Eng
namespace Go.Eng
open Go.RowKit
variable {P:Program} {K:Nat} {w0:Base} {v0:Zb} {σ:List (Nat×Value)} {ℓ:List Loc} {v:Zb} {a:Act} {w:World}
theorem ZWu {P:Program} {Q:Exit→Act→World→Prop} {a:Act} {w:World} {c:Code} {n:Nat} (h:c.wp P (Exit.then (Code.rounds P c Q n) Q) a w):Code.rounds P c Q (n+1) a w:=h
end Go.Eng
namespace Go.Eng
open Go.RowKit
section
variable {P:Program} {K:Nat} {w0:Base} {v0:Zb} {σ:List (Nat×Value)} {ℓ:List Loc} {v:Zb} {a:Act} {w:World}
variable {d:Option Nat} {ty:TypeId} {pos:String} {aft:Array Edge} {g:Option (Nat×Bool)}
theorem ZKz (hS:St K w0 v0 σ ℓ v a w) {t:TypeId} {x j:Operand} {X J z:Value} (e:ev σ x=some X) (e':ev σ j=some J) (h:(Instr.index t X J).run P w = .ok z w) :
  (execOp a.eval ⟨d,.index t x j,ty,pos,aft,g⟩).run P w = .ok (.value z) w:=by
 simp[execOp,hS.eval e,hS.eval e',h]
end
end Go.Eng
namespace Go.Eng
open Go.RowKit
section
variable {K:Nat} {w0:Base} {v0:Zb} {ℓ:List Loc} {v:Zb} {a:Act} {w:World}
theorem St.evs (h:St K w0 v0 [] ℓ v a w):∀ xs:List Operand,∃ σ,St K w0 v0 σ ℓ v a w∧∀ x ∈ xs,ev σ x=some (a.eval x)
 | []=>⟨[],h,λ_ e=>by cases e⟩
 | x :: xs=>by
  obtain⟨σ,hs,hx⟩:=St.evs h xs
  cases x with
  | tmp t =>
   refine⟨(t,a.tmps.getD t undef) :: σ,hs.learn rfl,λz hz=>?_⟩
   rcases List.mem_cons.1 hz with rfl | hz
   ·exact Zjf rfl
   ·have h1:=hx z hz
    cases z with
    | tmp t' =>
     by_cases e:t=t'
     ·subst e;exact Zjf rfl
     ·show look _ t'=_;rw[Z7g e];exact h1
    | _=>exact h1
  | const c=>exact⟨σ,hs,λz hz=>by rcases List.mem_cons.1 hz with rfl | hz;exact rfl;exact hx z hz⟩
  | global g=>exact⟨σ,hs,λz hz=>by rcases List.mem_cons.1 hz with rfl | hz;exact rfl;exact hx z hz⟩
  | func g=>exact⟨σ,hs,λz hz=>by rcases List.mem_cons.1 hz with rfl | hz;exact rfl;exact hx z hz⟩
theorem St.ev1 (h:St K w0 v0 [] ℓ v a w) (x:Operand):∃ σ,St K w0 v0 σ ℓ v a w∧ev σ x=some (a.eval x):=by
 obtain⟨σ,h1,h2⟩:=h.evs [x];exact⟨σ,h1,h2 x (by simp)⟩
theorem St.ev2 (h:St K w0 v0 [] ℓ v a w) (x y:Operand):∃ σ,St K w0 v0 σ ℓ v a w∧ev σ x=some (a.eval x)∧ev σ y=some (a.eval y):=by
 obtain⟨σ,h1,h2⟩:=h.evs [x,y];exact⟨σ,h1,h2 x (by simp),h2 y (by simp)⟩
theorem St.ev6 (h:St K w0 v0 [] ℓ v a w) (x1 x2 x3 x4 x5 x6:Operand):∃ σ,St K w0 v0 σ ℓ v a w∧ev σ x1=some (a.eval x1)∧ev σ x2=some (a.eval x2)∧ev σ x3=some (a.eval x3)∧ev σ x4=some (a.eval x4)∧ev σ x5=some (a.eval x5)∧ev σ x6=some (a.eval x6):=by
 obtain⟨σ,h1,h2⟩:=h.evs [x1,x2,x3,x4,x5,x6];exact⟨σ,h1,h2 _ (by simp),h2 _ (by simp),h2 _ (by simp),h2 _ (by simp),h2 _ (by simp),h2 _ (by simp)⟩
theorem St.ev3 (h:St K w0 v0 [] ℓ v a w) (x y z:Operand):∃ σ,St K w0 v0 σ ℓ v a w∧ev σ x=some (a.eval x)∧ev σ y=some (a.eval y)∧ev σ z=some (a.eval z):=by
 obtain⟨σ,h1,h2⟩:=h.evs [x,y,z];exact⟨σ,h1,h2 x (by simp),h2 y (by simp),h2 z (by simp)⟩
end
section
variable {P:Program} {N:Nat} {G:V→Value→Prop} {w0:Base} {v0:Zb} {U X:Nat→Prop} {f:Fr} {l:Lo} {a:Act} {w:World} {γ:Nat→Gh} {v:Zb} {ℓ:List Loc} {n:Nat}
def Zxa (P:Program) (N:Nat) (G:V→Value→Prop) (w0:Base) (v0:Zb) (X:Nat→Prop) (o:Oper) (a:Act) (w:World) (Post:Unit→Fr→Lo→Prop):Prop :=
 ZZb P o a w λx w'=>∃ f' l',Post () f' l'∧Rel N G w0 v0 X f' l' (a.put o.dst x) w'
theorem fin {o:Oper} {l':Lo} {w':World} {γ':Nat→Gh} {v':Zb} {ℓ':List Loc} {x:V} {y:Value} {Post:Unit→Fr→Lo→Prop} (hr:RelX N G w0 v0 X X f l' a w' γ' v' ℓ') (hrun:(execOp a.eval o).run P w = .ok (.value y) w')
  (hd:∀ d,o.dst=some d→d<N) (hX:X n) (hv:RV v' γ' l' x y) (hk:x.ok X) (h:Zk n (ret o x) f l' Post):Zxa P N G w0 v0 X o a w Post:=by
 unfold ret at h;refine ZAe hrun ?_
 cases hdd:o.dst with
 | none=>rw[hdd]at h;exact h.elim
 | some d =>
  rw[hdd]at h;exact⟨_,_,h,_,_,_,hr.put (hd d hdd) hv hk hX⟩
theorem ZS {o:Oper} {x:V} {y:Value} {Post:Unit→Fr→Lo→Prop} (hr:RelX N G w0 v0 U X f l a w γ v ℓ) (hU:∀ k,U k→X k) (hrun:(execOp a.eval o).run P w = .ok (.value y) w)
  (hd:∀ d,o.dst=some d→d<N) (hX:X n) (hv:RV v γ l x y) (hk:x.ok X) (h:Zk n (ret o x) f l Post):Zxa P N G w0 v0 X o a w Post :=
 fin (hr.mono hU λ_ h=>h) hrun hd hX hv hk h
theorem ZAc {x:V} {cs:List Value} (h:RR v γ l false x cs) (hx:∀ c,x ≠ .tup c):RV v γ l x (x.val cs):=by
 cases x with
 | tup c=>exact absurd rfl (hx c)
 | _=>exact⟨cs,h,rfl⟩
theorem ZMb {x:V} {y:Value} (h:RV v γ l x y) (hx:∀ c,x ≠ .tup c):∃ cs,RR v γ l false x cs∧y=x.val cs:=by
 cases x with
 | tup c=>exact absurd rfl (hx c)
 | _=>exact h
theorem Zeh {t:T} {x:t.den} {y:Value} (h:RV v γ l (.data t x) y):∃ cs,t.rep.rel v cs x∧y=t.rep.val cs:=by
 obtain⟨cs,h1,h2⟩:=h;exact⟨cs,h1,by rw[h2,Zaf]⟩
theorem ZTa {k:IntKind} {i:Int} {y:Value} (h:RV v γ l (.data (.int k) i) y):y = .int k i∧inR k i:=by
 obtain⟨cs,h1,rfl⟩:=h;obtain⟨rfl,h2⟩:=h1;exact⟨rfl,h2⟩
theorem Zlg {b:Bool} {y:Value} (h:RV v γ l (.data .bool b) y):y = .bool b:=by
 obtain⟨cs,h1,rfl⟩:=h;have h1:cs=[.bool b]:=h1;subst h1;rfl
theorem ZWh {s:List UInt8} {y:Value} (h:RV v γ l (.data .str s) y):y = .string (ZA s)∧s.length≤maxLen:=by
 obtain⟨cs,h1,rfl⟩:=h;obtain⟨rfl,h2⟩:=h1;exact⟨rfl,h2⟩
theorem ZUa {k:IntKind} {i:Int} (h:inR k i):RV v γ l (.data (.int k) i) (.int k i):=⟨[.int k i],⟨rfl,h⟩,rfl⟩
theorem Z0c {b:Bool}:RV v γ l (.data .bool b) (.bool b):=⟨[.bool b],rfl,rfl⟩
theorem Zzj {s:List UInt8} (h:s.length≤maxLen):RV v γ l (.data .str s) (.string (ZA s)):=⟨[.string (ZA s)],⟨rfl,h⟩,rfl⟩
theorem Zmo {t:T} {xs:List t.den} {y:Value} (h:RV v γ l (.data (.slice t) xs) y):∃ q n c,y = .slice q n c∧(ZG t.rep).rel v [.slice q n c] xs:=by
 obtain⟨cs,h1,rfl⟩:=h;obtain⟨q,n,c,rfl⟩:=Z3f (A:=t.rep) h1;exact⟨q,n,c,rfl,h1⟩
theorem Zoa {x:V} {y:Value} (h:RV v γ l x y) (hx:∀ c,x ≠ .tup c) (hs:x.size=1) (ha:x.isAgg=false):RR v γ l false x [y]:=by
 obtain⟨cs,h1,rfl⟩:=ZMb h hx;rw[ZGg h1 hs ha]at h1;exact h1
theorem ZDv {c:Value} {x:V} (h:Zsk c=some x):RV v γ l x c∧x.ok U:=by
 unfold Zsk at h;split at h
 ·cases h;exact⟨Z0c,trivial⟩
 ·split at h
  ·cases h;exact⟨ZUa (by assumption),trivial⟩
  ·cases h
 ·split at h
  ·cases h;exact⟨⟨[_],⟨rfl,by assumption⟩,rfl⟩,trivial⟩
  ·cases h
 ·rename_i s;split at h
  ·cases h
   refine⟨?_,trivial⟩;have:=Zzj (v:=v) (γ:=γ) (l:=l) (s:=s.data.toList) (by assumption)
   simpa [ZA] using this
  ·cases h
 ·cases h;exact⟨⟨[_],rfl,rfl⟩,trivial⟩
 ·cases h
theorem ZEm (hr:RelX N G w0 v0 U X f l a w γ v ℓ) {x:Operand} {V':V} (h:opdV f x=some V'):RV v γ l V' (a.eval x)∧V'.ok U:=by
 cases x with
 | tmp t =>
  simp only[opdV]at h;split at h
  ·rename_i e he;cases h;exact⟨hr.fr t e he,(hr.uf _ e he).1⟩
  ·cases h
 | const c=>exact ZDv h
 | func g=>cases h;exact⟨⟨[_],⟨[],rfl,rfl⟩,rfl⟩,trivial⟩
 | global g=>cases h
theorem ZCy {ρ:Type} {x:Operand} {k:V→Ev ρ} {Post:ρ→Fr→Lo→Prop} (h:Zk n (opd x k) f l Post):∃ V',opdV f x=some V'∧Zk n (k V') f l Post:=by
 cases x with
 | tmp t=>obtain⟨e,he,h⟩:=h;exact⟨e.x,by simp only[opdV,he],h⟩
 | const c =>
  simp only[opd]at h;split at h
  ·rename_i x hx;exact⟨x,hx,h⟩
  ·exact h.elim
 | func g=>exact⟨_,rfl,h⟩
 | global g=>exact h.elim
theorem ZO {ρ:Type} (hr:RelX N G w0 v0 U X f l a w γ v ℓ) {x:Operand} {k:V→Ev ρ} {Post:ρ→Fr→Lo→Prop} (h:Zk n (opd x k) f l Post):∃ V',RV v γ l V' (a.eval x)∧V'.ok U∧Zk n (k V') f l Post:=by
 obtain⟨V',h1,h2⟩:=ZCy h;obtain⟨h3,h4⟩:=ZEm hr h1;exact⟨V',h3,h4,h2⟩
theorem Znb {ρ:Type} {x:V} {k:IntKind→Int→Ev ρ} {Post:ρ→Fr→Lo→Prop} (h:Zk n (Z8a x k) f l Post):∃ κ i,x = .data (.int κ) i∧Zk n (k κ i) f l Post:=by
 unfold Z8a at h;split at h
 ·exact⟨_,_,rfl,h⟩
 ·exact h.elim
theorem Zyy {ρ:Type} {x:V} {k:Bool→Ev ρ} {Post:ρ→Fr→Lo→Prop} (h:Zk n (Zmm x k) f l Post):∃ b,x = .data .bool b∧Zk n (k b) f l Post:=by
 unfold Zmm at h;split at h
 ·exact⟨_,rfl,h⟩
 ·exact h.elim
theorem ZDu {t:TypeId} {p q:Bool} (ht:P.underlying t=some .bool) (w:World):(Op.equal t (.bool p) (.bool q)).run P w = .ok (p==q) w:=by
 show (Op.equalIn (9999+1) t (.bool p) (.bool q)).run P w=_;unfold Op.equalIn;simp[run_underlying ht]
theorem Z6y {t:TypeId} {p q:Bool} (ht:P.underlying t=some .bool) (w:World):(binOp .eql t (.bool p) (.bool q)).run P w = .ok (.bool (p==q)) w:=by
 simp[binOp,ZDu ht]
theorem Zhw {t:TypeId} {p q:Bool} (ht:P.underlying t=some .bool) (w:World):(binOp .neq t (.bool p) (.bool q)).run P w = .ok (.bool (p != q)) w:=by
 simp[binOp,ZDu ht,bne]
theorem binI_ok {op:BinOp} {κ:IntKind} {i j:Int} {k:V→Ev Unit} {Post:Unit→Fr→Lo→Prop} (t:TypeId) (hi:inR κ i) (h:Zk n (binI op κ i j k) f l Post):∃ x y,(∀ w,(binOp op t (.int κ i) (.int κ j)).run P w = .ok y w)∧RV v γ l x y∧x.ok U∧Zk n (k x) f l Post:=by
 unfold binI at h;split at h
 ·split at h
  ·obtain⟨z,hz,h⟩:=h;exact⟨_,_,ZJc hz,ZUa (Zdb hz).2,trivial,h⟩
  ·exact⟨_,_,ZZm,ZUa (ZPb _ _),trivial,h⟩
 ·split at h
  ·obtain⟨z,hz,h⟩:=h;exact⟨_,_,ZIb hz,ZUa (Zdb hz).2,trivial,h⟩
  ·exact⟨_,_,Z4n,ZUa (ZPb _ _),trivial,h⟩
 ·split at h
  ·obtain⟨z,hz,h⟩:=h;exact⟨_,_,bin_mul hz,ZUa (Zdb hz).2,trivial,h⟩
  ·exact⟨_,_,Zhz,ZUa (ZPb _ _),trivial,h⟩
 ·obtain⟨z,hz,h⟩:=h;exact⟨_,_,ZYo hz,ZUa (Zpu hz),trivial,h⟩
 ·obtain⟨z,hz,h⟩:=h;exact⟨_,_,Zps hz,ZUa (rem_inR hi hz),trivial,h⟩
 ·exact⟨_,_,Zyk,ZUa (ZPb _ _),trivial,h⟩
 ·exact⟨_,_,Zuk,ZUa (ZPb _ _),trivial,h⟩
 ·exact⟨_,_,bin_xor,ZUa (ZPb _ _),trivial,h⟩
 ·exact⟨_,_,Z2c,Z0c,trivial,h⟩
 ·exact⟨_,_,ZQs,Z0c,trivial,h⟩
 ·exact⟨_,_,Zqf,Z0c,trivial,h⟩
 ·exact⟨_,_,ZEi,Z0c,trivial,h⟩
 ·exact⟨_,_,ZMf,Z0c,trivial,h⟩
 ·exact⟨_,_,bin_neq,Z0c,trivial,h⟩
 ·exact h.elim
theorem binE_ok (hr:RelX N G w0 v0 U X f l a w γ v ℓ) {d:Option Nat} {op:BinOp} {t t' ty:TypeId} {pos:String} {aft:Array Edge} {g:Option (Nat×Bool)} {x y:Operand} {vx vy:V} {k:V→Ev Unit} {Post:Unit→Fr→Lo→Prop} (hx:RV v γ l vx (a.eval x)) (hy:RV v γ l vy (a.eval y))
  (h:Zk n (binE P op t vx vy k) f l Post):∃ z q,(execOp a.eval ⟨d,.binOp op t x y t',ty,pos,aft,g⟩).run P w = .ok (.value q) w∧RV v γ l z q∧z.ok U∧Zk n (k z) f l Post:=by
 obtain⟨σ,hs,e1,e2⟩:=hr.st.ev2 x y;unfold binE at h;split at h
 ·obtain⟨h1,h2⟩:=ZTa hx;obtain⟨h3,h4⟩:=ZTa hy;rw[h1]at e1;rw[h3]at e2;split at h
  ·obtain⟨z,hz,h⟩:=h;exact⟨_,_,Zs hs e1 e2 (Zas hz),ZUa (Zlw h2 hz),trivial,h⟩
  ·obtain⟨z,hz,h⟩:=h;exact⟨_,_,Zs hs e1 e2 (Zgo hz),ZUa (Zxz h2 hz),trivial,h⟩
  ·split at h
   ·rename_i hk;have hk:=ZBc hk;subst hk;obtain⟨z,q,h5,h6,h7,h8⟩:=binI_ok (P:=P) (v:=v) (γ:=γ) (U:=U) t h2 h;exact⟨z,q,Zs hs e1 e2 h5,h6,h7,h8⟩
   ·exact h.elim
 ·have h1:=Zlg hx;have h2:=Zlg hy;rw[h1]at e1;rw[h2]at e2;split at h
  ·rename_i ht;split at h
   ·exact⟨_,_,Zfs hs e1 e2 (Z6y ht),Z0c,trivial,h⟩
   ·exact⟨_,_,Zfs hs e1 e2 (Zhw ht),Z0c,trivial,h⟩
   ·exact h.elim
  ·exact h.elim
 ·obtain⟨h1,h2⟩:=ZWh hx;obtain⟨h3,h4⟩:=ZWh hy;rw[h1]at e1;rw[h3]at e2;split at h
  ·obtain⟨z,hz,h⟩:=h;exact⟨_,_,Zck hs e1 e2 (ZXq hz),Zzj (ZNk hz),trivial,h⟩
  ·exact⟨_,_,Zck hs e1 e2 str_eql,Z0c,trivial,h⟩
  ·exact⟨_,_,Zck hs e1 e2 str_neq,Z0c,trivial,h⟩
  ·exact h.elim
 ·exact h.elim
end
end Go.Eng
namespace Go.Eng
open Go.RowKit
theorem T_one:∀ {t:T},t.agg=false→t.n=1
 | .int _,_ | .bool,_ | .flt _,_ | .str,_ | .slice _,_ | .ptr _,_=>rfl
 | .leaf 0,_ | .leaf 1,_ | .leaf (_+5),_=>rfl
theorem Z2d:∀ (g:Nat) {x z:V} {off n:Nat} {ag:Bool},Zwa g x off n ag=some z→z.isAgg=false→z.size=1
 | 0,_,_,_,_,_,h,_=>by cases h
 | g+1,x,z,off,n,ag,h,hz=>by
  have whole:∀ {y:V},(y.isAgg=false→y.size=1)→(match Nat.beq off 0,Nat.beq y.size n,eqB y.isAgg ag with
    | true,true,true=>some y
    | _,_,_=>match y with
     | .agg c=>Zwa g c off n ag
     | .data t x=>match Zdc t x with
      | some c=>Zwa g c off n ag
      | none=>none
     | _=>none)=some z→z.size=1:=by
   intro y h1 hy;split at hy
   ·cases hy;exact h1 hz
   ·split at hy
    ·exact Z2d g hy hz
    ·split at hy
     ·exact Z2d g hy hz
     ·cases hy
    ·cases hy
  cases x with
  | nl=>simp only[Zwa]at h;cases h
  | cons a b =>
   simp only[Zwa]at h;split at h
   ·exact Z2d g h hz
   ·split at h
    ·exact Z2d g h hz
    ·cases h
  | data t x=>exact whole (y:=.data t x) (λh=>T_one h) h
  | agg c=>exact whole (y:=.agg c) (λh=>by cases h) h
  | nilS=>exact whole (y:=.nilS) (λ_=>rfl) h
  | own u=>exact whole (y:=.own u) (λ_=>rfl) h
  | row u i hv cv t r=>exact whole (y:=.row u i hv cv t r) (λ_=>rfl) h
  | ptr u o=>exact whole (y:=.ptr u o) (λ_=>rfl) h
  | el u i cv t x o=>exact whole (y:=.el u i cv t x o) (λ_=>rfl) h
  | rp u i hv cv t r=>exact whole (y:=.rp u i hv cv t r) (λ_=>rfl) h
  | rel u i j hv cv t r x o=>exact whole (y:=.rel u i j hv cv t r x o) (λ_=>rfl) h
  | vp t x o=>exact whole (y:=.vp t x o) (λ_=>rfl) h
  | tup c=>exact whole (y:=.tup c) (λ_=>rfl) h
  | fn f c=>exact whole (y:=.fn f c) (λ_=>rfl) h
  | ifc f c=>exact whole (y:=.ifc f c) (λ_=>rfl) h
  | undef=>exact whole (y:=.undef) (λ_=>rfl) h
section
variable {P:Program} {N:Nat} {G:V→Value→Prop} {w0:Base} {v0:Zb} {U X:Nat→Prop} {f:Fr} {l:Lo} {a:Act} {w:World} {γ:Nat→Gh} {v:Zb} {ℓ:List Loc} {n:Nat}
theorem Zhg {t:TypeId} {q:Nat×Bool} (h:szA P t=some q):Sized P t q.1 q.2:=by
 unfold szA at h;split at h
 ·rename_i i d hi hd
  cases h
  refine⟨λw=>by simp[sizeOf,typeInfo,hi],λw=>?_⟩
  cases d <;> simp[isAgg,run_underlying hd,aggD]
 ·cases h
theorem ZAo {t:TypeId} {q:TypeId×Nat} (h:ZGi P t=some q):Z0b P t q.1 q.2:=by
 unfold ZGi at h;split at h
 ·rename_i e he;split at h
  ·rename_i i hi
   cases h
   exact⟨λw=>run_underlying he w,λw=>by simp[sizeOf,typeInfo,hi]⟩
  ·cases h
 ·cases h
theorem RelX.loc (h:RelX N G w0 v0 U X f l a w γ v ℓ) {u:Nat} {e:En LV} (hu:lkE l u=some e):e.k=u∧∃ es,ZIa v γ l e es∧∀ x ∈ es,∃ i:Nat,ℓ[i]? = some x:=by
 obtain⟨E,hE,hp⟩:=h.lr;obtain⟨es,E',h1,h2,h3⟩:=Zrf hE hu;exact⟨(Zq hu).2,es,h1,λx hx=>List.getElem?_of_mem ((hp.trans h3).mem_iff.2 (List.mem_append_left _ hx))⟩
theorem ZZk (hs:St N w0 v0 [] ℓ v a w) {t:TypeId} {q:Nat×Bool} (ht:szA P t=some q) {b off:Nat} {cs:List Value} (hc:WAt w b off cs) {z:V} (hz:RR v γ l false z cs) (h1:z.size=q.1) (h2:z.isAgg=q.2) (h3:z.isAgg=false→z.size=1)
  {d:Option Nat} {ty:TypeId} {pos:String} {aft:Array Edge} {g:Option (Nat×Bool)} {x:Operand} (e:a.eval x = .pointer (some ⟨b,off,none⟩)):(execOp a.eval ⟨d,.load t x,ty,pos,aft,g⟩).run P w = .ok (.value (z.val cs)) w:=by
 obtain⟨σ,hs',e1⟩:=hs.ev1 x;rw[e]at e1;have ht:=Zhg ht;have hl:=ZBd hz
 cases hag:z.isAgg with
 | true =>
  rw[← h2,hag,← h1,← hl]at ht;have:=ZCt (d:=d) (ty:=ty) (pos:=pos) (aft:=aft) (g:=g) hs' e1 ht rfl hc;rw[this];unfold V.val;rw[hag]
 | false =>
  have e3:=ZGg hz (h3 hag) hag;rw[e3]at hc;rw[← h2,hag]at ht;exact ZGb (d:=d) (ty:=ty) (pos:=pos) (aft:=aft) (g:=g) hs' e1 ht hc
theorem Zyi {α:Type}:∀ {rows:List (Option Nat×Nat)} {m:List (List α)} {i:Nat} {p:Option Nat×Nat} {r:List α},rows[i]? = some p→m[i]? = some r→(Zo rows m)[i]? = some (.slice (mkA p.1) r.length p.2)
 | [],_,_,_,_,h,_=>by simp at h
 | _ :: _,[],_,_,_,_,h=>by simp at h
 | p :: ps,r :: rs,0,_,_,h,h'=>by simp at h h';subst h h';rfl
 | p :: ps,r :: rs,i+1,_,_,h,h'=>by
  simp only[List.getElem?_cons_succ]at h h'
  have:=Zyi (rows:=ps) (m:=rs) (i:=i) h h'
  simpa [Zo] using this
theorem ZUd {α:Type}:∀ {rows:List (Option Nat×Nat)} {m:List (List α)},rows.length=m.length→(Zo rows m).length=m.length
 | [],[],_=>rfl
 | _ :: _,_ :: _,h=>by simp[Zo];exact ZUd (by simpa using h)
 | [],_ :: _,h=>by cases h
 | _ :: _,[],h=>by cases h
theorem Ztf {ty:TypeId} {t:T}:∀ {rows:List (Option Nat×Nat)} {m:List (List t.den)} {es:List Loc} {i:Nat} {r:List t.den},Zua v ty t rows m es→m[i]? = some r→∃ p cs,rows[i]? = some p∧t.rep.rels v cs r∧.own p.1 ty t.n r.length p.2 cs ∈ es
 | [],[],_,_,_,_,h=>by simp at h
 | _ :: _,_ :: _,_,0,_,⟨cs,es',h1,h2,h3⟩,h=>by simp at h;subst h h2;exact⟨_,cs,rfl,h1,by simp⟩
 | _ :: _,_ :: _,_,i+1,_,⟨cs,es',h1,h2,h3⟩,h=>by
  simp at h
  obtain⟨p,cs',g1,g2,g3⟩:=Ztf h3 h
  subst h2
  exact⟨p,cs',by simpa using g1,g2,by simp[g3]⟩
 | [],_ :: _,_,_,_,k,_=>k.elim
 | _ :: _,[],_,_,_,k,_=>k.elim
theorem Zcp {b off k:Nat} {c:List Value} (h:WAt w b off c) (m:Nat) (hk:k+m≤c.length):WAt w b (off+k) ((c.drop k).take m):=by
 obtain⟨c0,T,fr,h1,h2⟩:=h;refine⟨c0,T,fr,h1,?_⟩;have hl:((c.drop k).take m).length=m:=by simp;omega
 rw[hl];have:((c0.toList.drop off).take c.length)=c:=h2
 conv=>rhs;rw[← this]
 rw[List.drop_take,List.drop_drop,List.take_take];congr 1;omega
theorem ldE_ok (hr:RelX N G w0 v0 U X f l a w γ v ℓ) {d:Option Nat} {t ty:TypeId} {pos:String} {aft:Array Edge} {g:Option (Nat×Bool)} {x:Operand} {p:V} {k:V→Ev Unit} {Post:Unit→Fr→Lo→Prop} (hp:RV v γ l p (a.eval x)) (hk:p.ok U)
  (h:Zk n (ldE P t p k) f l Post):∃ z y,(execOp a.eval ⟨d,.load t x,ty,pos,aft,g⟩).run P w = .ok (.value y) w∧RV v γ l z y∧z.ok U∧Zk n (k z) f l Post:=by
 unfold ldE at h;split at h
 ·exact h.elim
 ·rename_i q hq;split at h
  · -- a variable
   rename_i u off;obtain⟨e,he,h⟩:=h;obtain⟨y,hy0,_,hy⟩:=Zoa hp (λ_ e=>by cases e) rfl rfl
   cases hy0
   have hy:=hy e he;obtain⟨kk,st,L⟩:=e;obtain⟨hkk,es,hes,hmem⟩:=hr.loc he
   cases L with
   | box ty0 c =>
    simp only at h;obtain⟨b,cs,g1,g2,g3,rfl⟩:=hes;obtain⟨b',g4,g5⟩:=hy;have hkk:kk=u:=hkk;subst hkk;have g1:γ kk = .box b:=g1;rw[g1]at g4;cases g4;split at h
    ·rename_i z hz;have hc:c.ok U:=(hr.ul _ (Zq he).1).2.2;obtain⟨k1,k2,k3,k4,k5⟩:=ZYd FU hz g2 hc;obtain⟨i,hi⟩:=hmem _ (List.mem_singleton.2 rfl);have hlen:((cs.drop off).take q.1).length=q.1:=by simp;omega
     have hw:=hr.st.box hi off ((cs.drop off).take q.1) (by rw[hlen]);exact⟨z,_,ZZk hr.st hq hw k1 k3 k4 (Z2d FU hz) g5,ZAc k1 (λc e=>by subst e;exact k1),k2,h⟩
    ·exact h.elim
   | own _ _ _ _=>exact h.elim
   | mid _ _ _ _ _ _=>exact h.elim
   | mat _ _ _ _ _=>exact h.elim
  · -- an element
   rename_i u i cv e x0 off;obtain⟨en,he,h⟩:=h;obtain⟨y,hy0,_,_,hy⟩:=Zoa hp (λ_ e=>by cases e) rfl rfl
   cases hy0
   have hy:=hy en he;obtain⟨kk,st,L⟩:=en;obtain⟨hkk,es,hes,hmem⟩:=hr.loc he
   cases L with
   | own ty0 s xs fz =>
    simp only at h;obtain⟨b,cap,g1,g2,g3,g4⟩:=hy;have hkk:kk=u:=hkk;subst hkk;split at h
    ·rename_i hcv;obtain⟨ys,c1,c2⟩:=g4 (eQ hcv);obtain⟨c3,c4⟩:=Z3 c1
     cases c3;cases c4
     split at h
     ·rename_i z hz;have key:∀ c,e.rep.rel v c x0→RR v γ l false z ((c.drop off).take q.1)∧z.ok U∧z.size=q.1∧z.isAgg=q.2∧off+q.1≤c.length:=λc hc=>ZYd FU hz (x:=.data e x0) hc trivial;have hcell:∃ c,e.rep.rel v c x0∧WAt w b (0+i*e.n+off) ((c.drop off).take q.1):=by
       cases fz with
       | false =>
        obtain⟨ob,cap',cs,q1,q2,rfl⟩:=hes;have q1:γ kk = .own ob cap':=q1;rw[g1]at q1;cases q1;obtain⟨j,hj⟩:=hmem _ (List.mem_singleton.2 rfl);have hrel:=Z1a q2 c2;rw[ZW]at hrel;refine⟨_,hrel,?_⟩;obtain⟨_,_,_,_,k5⟩:=key _ hrel;have hl:=Rep.len _ hrel;rw[ZW]at hl;have hlen:((((cs.drop (i*e.n)).take e.n).drop off).take q.1).length=q.1:=by
         simp only[List.length_take,List.length_drop]at k5 ⊢;omega
        exact Zwe hr.st hj rfl g3 off _ (by rw[hlen]) (by rw[hlen];omega)
       | true =>
        obtain⟨ob,cap',q1,q2,_⟩:=hes;have q1:γ kk = .own ob cap':=q1;rw[g1]at q1;cases q1;obtain⟨_,b2,o2,cs2,e2,h2,h3⟩:=ZGc q2 c2
        cases e2
        refine⟨cs2,h3,?_⟩;obtain⟨_,_,_,_,k5⟩:=key _ h3;rw[ZW]at h2;exact Zcp (hr.st.view h2) q.1 k5
      obtain⟨c,hc1,hc2⟩:=hcell;obtain⟨k1,k2,k3,k4,k5⟩:=key c hc1;exact⟨z,_,ZZk hr.st hq hc2 k1 k3 k4 (Z2d FU hz) g2,ZAc k1 (λc e=>by subst e;exact k1),k2,h⟩
     ·exact h.elim
    ·exact h.elim
   | box _ _=>exact h.elim
   | mid _ _ _ _ _ _=>exact h.elim
   | mat _ _ _ _ _=>exact h.elim
  · -- behind a pointer to what is shown
   rename_i e x0 off;obtain⟨cs,h1,h2⟩:=ZMb hp (λ_ e=>by cases e);obtain⟨b,o,c,hA,hR,rfl⟩:=h1;split at h
   ·rename_i z hz;obtain⟨k1,k2,k3,k4,k5⟩:=ZYd FU hz (x:=.data e x0) (γ:=γ) (l:=l) (U:=U) hR trivial;exact⟨z,_,ZZk hr.st hq (Zcp (hr.st.view hA) q.1 k5) k1 k3 k4 (Z2d FU hz) h2,ZAc k1 (λc e=>by subst e;exact k1),k2,h⟩
   ·exact h.elim
  · -- a row's header
   rename_i u i hv cv e r;obtain⟨en,he,h⟩:=h;obtain⟨y,hy0,_,hy⟩:=Zoa hp (λ_ e=>by cases e) rfl rfl
   cases hy0
   have hy:=hy en he;obtain⟨kk,st,L⟩:=en;obtain⟨hkk,es,hes,hmem⟩:=hr.loc he
   cases L with
   | mat ty0 ty2 s m hv' =>
    simp only at h;have hkk:kk=u:=hkk;subst hkk;split at h
    ·rename_i b1 b2 b3;have b1:=eQ b1;have b2:=eQ b2;subst b1 b2;obtain⟨b,cap,rows,g1,g2,g3,g4⟩:=hy;obtain⟨m',c1,c2⟩:=g4 rfl;obtain⟨c3,c4⟩:=Z3 c1
     cases c3;cases c4
     obtain⟨ob,cap',rows',es2,q1,q2,rfl⟩:=hes;have q1:γ kk = .mat ob cap' rows':=q1;rw[g1]at q1;cases q1;obtain⟨p,cs,r1,r2,r3⟩:=Ztf q2 c2;obtain⟨j,hj⟩:=hmem _ List.mem_cons_self;have hh:=Zyi r1 c2;have hw:WAt w b (0+i*1) [.slice (mkA p.1) r.length p.2]:=by
      have hx:((Zo rows m).drop (i*1)).take 1=[.slice (mkA p.1) r.length p.2]:=by
       have hlt:=(List.getElem?_eq_some_iff.1 hh).1;rw[Nat.mul_one,List.drop_eq_getElem_cons hlt];simp[(List.getElem?_eq_some_iff.1 hh).2]
      have:=Zwe hr.st hj hx g3 0 [.slice (mkA p.1) r.length p.2] rfl (by simp)
      simpa using this
     have hrow:RR v γ l false (.row kk i hv' st e r) [.slice (mkA p.1) r.length p.2]:=by
      refine⟨_,rfl,rfl,λe' he'=>?_⟩;rw[he]at he';cases he';exact λ_=>⟨_,_,_,p.1,p.2,g1,r1,rfl,⟨r,c2,rfl⟩,λ_=>⟨m,c1,c2⟩⟩
     obtain⟨σ,hs',e1⟩:=hr.st.ev1 x;rw[g2]at e1;have ht:=Zhg hq;rw[b3]at ht;refine⟨_,_,ZGb hs' e1 ht hw,ZAc hrow (λc e=>by cases e),⟨hk.1,hk.2.1,hk.2.2⟩,h⟩
    ·exact h.elim
   | box _ _=>exact h.elim
   | mid _ _ _ _ _ _=>exact h.elim
   | own _ _ _ _=>exact h.elim
  · -- an element of a row
   rename_i u i j hv cv e r x0 off;obtain⟨en,he,h⟩:=h;obtain⟨y,hy0,_,hy⟩:=Zoa hp (λ_ e=>by cases e) rfl rfl
   cases hy0
   have hy:=hy en he;obtain⟨kk,st,L⟩:=en;obtain⟨hkk,es,hes,hmem⟩:=hr.loc he
   cases L with
   | mat ty0 ty2 s m hv' =>
    simp only at h;have hkk:kk=u:=hkk;subst hkk;split at h
    ·rename_i b1 b2;have b1:=eQ b1;have b2:=eQ b2;subst b1 b2;split at h
     ·rename_i z hz;obtain⟨ob,cap,rows,bi,capi,g1,g2,g3,g4,g5,g6⟩:=hy rfl;obtain⟨⟨m',c1,c2⟩,cx⟩:=g6 rfl;obtain⟨c3,c4⟩:=Z3 c1
      cases c3;cases c4
      obtain⟨ob',cap',rows',es2,q1,q2,rfl⟩:=hes;have q1:γ kk = .mat ob' cap' rows':=q1;rw[g1]at q1;cases q1;obtain⟨p,cs,r1,r2,r3⟩:=Ztf q2 c2;rw[g2]at r1;cases r1;obtain⟨jj,hj⟩:=hmem _ (List.mem_cons_of_mem _ r3);have hrel:=Z1a r2 cx;rw[ZW]at hrel;obtain⟨k1,k2,k3,k4,k5⟩:=ZYd FU hz (x:=.data e x0) (γ:=γ) (l:=l) (U:=U) hrel trivial;have hl:=Rep.len _ hrel;rw[ZW]at hl;have hlen:((((cs.drop (j*e.n)).take e.n).drop off).take q.1).length=q.1:=by
       simp only[List.length_take,List.length_drop]at k5 ⊢;omega
      have hw:=Zwe hr.st hj rfl g5 off _ (by rw[hlen]) (by rw[hlen];omega);exact⟨z,_,ZZk hr.st hq hw k1 k3 k4 (Z2d FU hz) g3,ZAc k1 (λc e=>by subst e;exact k1),k2,h⟩
     ·exact h.elim
    ·exact h.elim
   | box _ _=>exact h.elim
   | mid _ _ _ _ _ _=>exact h.elim
   | own _ _ _ _=>exact h.elim
  ·exact h.elim
end
end Go.Eng
namespace Go.Eng
open Go.RowKit
theorem Z0j {P:Program} {t:TypeId} {i:TypeInfo} (h:P.info? t=some i) (w:World):(sizeOf t).run P w = .ok i.size w:=by simp[sizeOf,typeInfo,h]
theorem ZNx (k:IntKind):kEq k k=true:=by cases k <;> rfl
theorem ZAw (k:FloatKind):fEqK k k=true:=by cases k <;> rfl
theorem Zah:∀ t:T,T.beq t t=true
 | .int k=>ZNx k
 | .bool | .str=>rfl
 | .flt k=>ZAw k
 | .one a=>Zah a
 | .slice a=>Zah a
 | .ptr a=>Zah a
 | .pair a b=>by simp only[T.beq,Zah a,Zah b]
 | .leaf i=>by simp[T.beq]
theorem ZIj {t:T} {x:t.den}:T.cast t t x=some x:=by
 unfold T.cast;have:∀ (b:Bool) (hb:T.beq t t=b),b=true→T.castB t t b hb x=some x:=by
  intro b hb e;subst e;rfl
 exact this _ rfl (Zah t)
section
variable {P:Program} {N:Nat} {G:V→Value→Prop} {w0:Base} {v0:Zb} {U X:Nat→Prop} {f:Fr} {l:Lo} {a:Act} {w:World} {γ:Nat→Gh} {v:Zb} {ℓ:List Loc} {n:Nat}
variable {d:Option Nat} {ty:TypeId} {pos:String} {aft:Array Edge} {g:Option (Nat×Bool)}
theorem fldA_ok {s:TypeId} {k off:Nat} (h:fldA P s k=some off):ZRj P s k off:=by
 unfold fldA at h;split at h
 ·rename_i fs hfs;split at h
  ·rename_i fd hfd;split at h
   ·rename_i i hi;split at h
    ·rename_i hb
     cases h
     intro b o w;have h0:fs[k]? = some fd:=by rw[← Array.getElem?_toList];exact hfd
     have h1:¬ i.size=0:=by
      have h2:1≤i.size:=lB hb;omega
     simp[Instr.fieldAt,run_underlying hfs,h0,Instr.sureAddr,fieldPlace,Z0j hi,h1,Z0a]
    ·cases h
   ·cases h
  ·cases h
 ·cases h
theorem Zie {b o:Nat}:plain (.pointer (some ⟨b,o,none⟩))=true:=rfl
theorem ZJl {ρ:Type} {p:V} {y:Value} {k:Ev ρ} {Post:ρ→Fr→Lo→Prop} (hp:RV v γ l p y) (hk:p.ok U) (h:Zk n (live p k) f l Post) :
  Zk n k f l Post∧∃ b o,y = .pointer (some ⟨b,o,none⟩)∧∀ off z,shift p off=some z→RV v γ l z (.pointer (some ⟨b,o+off,none⟩))∧z.ok U:=by
 unfold live at h;split at h
 ·rename_i u o;obtain⟨en,he,h⟩:=h;obtain⟨y,hy0,_,hy⟩:=Zoa hp (λ_ e=>by cases e) rfl rfl
  cases hy0
  have hy:=hy en he;obtain⟨kk,st,L⟩:=en
  cases L with
  | box _ _ =>
   obtain⟨b,g1,rfl⟩:=hy;refine⟨h,b,o,rfl,λoff z hz=>?_⟩
   cases hz
   refine⟨⟨[_],⟨_,rfl,Zie,λe' he'=>?_⟩,rfl⟩,hk⟩;rw[he]at he';cases he';exact⟨b,g1,rfl⟩
  | own _ _ _ _=>exact h.elim
  | mid _ _ _ _ _ _=>exact h.elim
  | mat _ _ _ _ _=>exact h.elim
 ·rename_i t x0 o;obtain⟨cs,h1,h2⟩:=ZMb hp (λ_ e=>by cases e);obtain⟨b,o',c,hA,hR,rfl⟩:=h1;refine⟨h,b,o'+o,h2,λoff z hz=>?_⟩
  cases hz
  exact⟨⟨[_],⟨b,o',c,hA,hR,by rw[Nat.add_assoc]⟩,rfl⟩,trivial⟩
 ·rename_i u i cv t x0 o;obtain⟨en,he,h⟩:=h;obtain⟨y,hy0,_,hc0,hy⟩:=Zoa hp (λ_ e=>by cases e) rfl rfl
  cases hy0
  have hy:=hy en he;obtain⟨kk,st,L⟩:=en
  cases L with
  | own _ s xs fz =>
   obtain⟨b,cap,g1,rfl,g3,g4⟩:=hy;refine⟨h,b,0+i*s.n+o,rfl,λoff z hz=>?_⟩
   cases hz
   refine⟨⟨[_],⟨_,rfl,Zie,hc0,λe' he'=>?_⟩,rfl⟩,hk⟩;rw[he]at he';cases he';exact⟨b,cap,g1,by rw[Nat.add_assoc (0+i*s.n)],g3,g4⟩
  | box _ _=>exact h.elim
  | mid _ _ _ _ _ _=>exact h.elim
  | mat _ _ _ _ _=>exact h.elim
 ·rename_i u i j hv cv t r x0 o;obtain⟨en,he,h⟩:=h;obtain⟨y,hy0,_,hy⟩:=Zoa hp (λ_ e=>by cases e) rfl rfl
  cases hy0
  have hy:=hy en he;obtain⟨kk,st,L⟩:=en
  cases L with
  | mat _ _ s m hv' =>
   simp only at h;split at h
   ·rename_i hb;have hb:=eQ hb;subst hb;obtain⟨ob,cap,rows,bi,capi,g1,g2,rfl,g4,g5,g6⟩:=hy rfl;refine⟨h,bi,0+j*s.n+o,rfl,λoff z hz=>?_⟩
    cases hz
    refine⟨⟨[_],⟨_,rfl,Zie,λe' he'=>?_⟩,rfl⟩,hk⟩;rw[he]at he';cases he';exact λ_=>⟨ob,cap,rows,bi,capi,g1,g2,by rw[Nat.add_assoc (0+j*s.n)],g4,g5,g6⟩
   ·exact h.elim
  | box _ _=>exact h.elim
  | mid _ _ _ _ _ _=>exact h.elim
  | own _ _ _ _=>exact h.elim
 ·exact h.elim
theorem fldE_ok (hr:RelX N G w0 v0 U X f l a w γ v ℓ) {s:TypeId} {k0:Nat} {x:Operand} {p:V} {k:V→Ev Unit} {Post:Unit→Fr→Lo→Prop} (hp:RV v γ l p (a.eval x)) (hk:p.ok U)
  (h:Zk n (fldE P s k0 p k) f l Post):∃ z y,(execOp a.eval ⟨d,.fieldAddr s x k0,ty,pos,aft,g⟩).run P w = .ok (.value y) w∧RV v γ l z y∧z.ok U∧Zk n (k z) f l Post:=by
 unfold fldE at h;split at h
 ·rename_i off hoff;split at h
  ·rename_i z hz;obtain⟨h,b,o,e,hs⟩:=ZJl hp hk h;obtain⟨h1,h2⟩:=hs _ _ hz;obtain⟨σ,hσ,e1⟩:=hr.st.ev1 x;rw[e]at e1;exact⟨z,_,ZHj hσ e1 (fldA_ok hoff),h1,h2,h⟩
  ·exact h.elim
 ·exact h.elim
theorem ZGq (hr:RelX N G w0 v0 U X f l a w γ v ℓ) (hU:∀ k,U k→X k) (hX:X n) {t:TypeId} {x i:Operand} {o:Oper} {p:V} {κ:IntKind} {j:Int} {Post:Unit→Fr→Lo→Prop} (ho:o=⟨d,.indexAddr t x i,ty,pos,aft,g⟩) (hd:∀ k,o.dst=some k→k<N) (hp:RV v γ l p (a.eval x)) (hk:p.ok U)
  (hi:a.eval i = .int κ j) (h:Zk n (ixA P o t p j) f l Post):Zxa P N G w0 v0 X o a w Post:=by
 unfold ixA at h;split at h
 ·rename_i m e he;split at h
  ·rename_i inf hinf h0 h1;split at h
   ·rename_i z hz;obtain⟨h,b,o',e',hs⟩:=ZJl hp hk h;obtain⟨k1,k2⟩:=hs _ _ hz;obtain⟨σ,hσ,e1,e2⟩:=hr.st.ev2 x i;rw[e']at e1;rw[hi]at e2;have hA:Z5h P t m inf.size:=⟨e,λw=>run_underlying he w,λw=>Z0j hinf w⟩;subst ho;exact ZS hr hU (Zdw hσ hA e1 e2 (of_decide_eq_true h0) (of_decide_eq_true h1) _ rfl) hd hX k1 (V.ok.mono hU k2) h
   ·exact h.elim
  ·exact h.elim
 ·exact h.elim
theorem alts_ok (hr:RelX N G w0 v0 U X f l a w γ v ℓ) (hU:∀ k,U k→X k) (hX:X n) {t:TypeId} {x i:Operand} {o:Oper} {p:V} {κ:IntKind} {j:Int} {Post:Unit→Fr→Lo→Prop} (ho:o=⟨d,.indexAddr t x i,ty,pos,aft,g⟩) (hd:∀ k,o.dst=some k→k<N) (hp:RV v γ l p (a.eval x)) (hk:p.ok U)
  (hi:a.eval i = .int κ j):∀ {m k:Nat},Zk n (alts P o t p j m k) f l Post→Zxa P N G w0 v0 X o a w Post:=by
 intro m
 induction m with
 | zero=>intro k h;exact h.elim
 | succ m ih =>
  intro k h;by_cases e:j=(k:Int)
  ·have h1:=h.1 (dTq e);rw[← e]at h1;exact ZGq hr hU hX ho hd hp hk hi h1
  ·exact ih (h.2 (dFq e))
theorem ixE_ok (hr:RelX N G w0 v0 U X f l a w γ v ℓ) (hU:∀ k,U k→X k) (hX:X n) {t:TypeId} {x i:Operand} {o:Oper} {p:V} {κ:IntKind} {j:Int} {Post:Unit→Fr→Lo→Prop} (ho:o=⟨d,.indexAddr t x i,ty,pos,aft,g⟩) (hd:∀ k,o.dst=some k→k<N) (hp:RV v γ l p (a.eval x)) (hk:p.ok U)
  (hi:a.eval i = .int κ j) (h:Zk n (ixE P o t p j) f l Post):Zxa P N G w0 v0 X o a w Post:=by
 unfold ixE at h;split at h
 ·exact ZGq hr hU hX ho hd hp hk hi h
 ·rename_i q hq;obtain⟨σ,hσ,e1,e2⟩:=hr.st.ev2 x i;rw[hi]at e2;have hSl:=ZAo hq;split at h
  ·rename_i u;obtain⟨en,he,h⟩:=h;obtain⟨y,hy0,_,hy⟩:=Zoa hp (λ_ e=>by cases e) rfl rfl;have hy0:a.eval x=y:=(List.cons.inj hy0).1;rw[hy0]at e1;have hy:=hy en he;obtain⟨kk,st,L⟩:=en;obtain⟨hkk,es,hes,hmem⟩:=hr.loc he;have hkk:kk=u:=hkk;subst hkk;have hst:U kk:=hk
   cases L with
   | own ty0 s xs fz =>
    simp only at h;split at h
    ·rename_i hb;have hb:=eQ hb;obtain⟨yy,hyy,h⟩:=h;obtain⟨j0,j1,j2,j3⟩:=Zp hyy;obtain⟨ob,cap,g1,rfl⟩:=hy;have hob:∃ b,ob=some b:=by
      cases fz with
      | false =>
       obtain⟨ob',cap',cs,q1,q2,rfl⟩:=hes;have q1:γ kk = .own ob' cap':=q1;rw[g1]at q1;cases q1;obtain⟨jj,hj⟩:=hmem _ (List.mem_singleton.2 rfl);exact Zpd hr.st hj (by omega)
      | true =>
       obtain⟨ob',cap',q1,q2,_⟩:=hes;have q1:γ kk = .own ob' cap':=q1;rw[g1]at q1;cases q1;obtain⟨_,b2,o2,cs2,e2,h2,h3⟩:=ZGc q2 j1
       cases ob with
       | none=>cases e2
       | some b=>exact⟨b,rfl⟩
     obtain⟨b,rfl⟩:=hob;have hc0:∃ c,s.rep.rel v c yy:=by
      cases fz with
      | false=>obtain⟨_,_,cs,_,q2,_⟩:=hes;exact⟨_,Z1a q2 j1⟩
      | true=>obtain⟨_,_,_,q2,_⟩:=hes;obtain⟨_,_,_,cs,_,_,h3⟩:=ZGc q2 j1;exact⟨cs,h3⟩
     subst ho;have hrun:=ZFa (d:=d) (ty:=ty) (pos:=pos) (aft:=aft) (g:=g) hσ e1 e2 hSl j0 (by exact j2);rw[hb]at hrun;refine ZS hr hU hrun hd hX (x:=.el kk j.toNat st s yy 0) ⟨[_],⟨_,rfl,Zie,hc0,λe' he'=>?_⟩,rfl⟩ ⟨hU _ hst,(hr.ul _ (Zq he).1).2.1⟩ h;rw[he]at he';cases he';exact⟨b,cap,g1,rfl,j3,λ_=>⟨xs,by unfold Zbc;exact ZIj,j1⟩⟩
    ·exact h.elim
   | mat ty0 ty2 s m hv =>
    simp only at h;split at h
    ·rename_i hb;have hb:=eQ hb;obtain⟨yy,hyy,h⟩:=h;obtain⟨j0,j1,j2,j3⟩:=Zp hyy;obtain⟨ob,cap,rows,g1,rfl⟩:=hy;obtain⟨ob',cap',rows',es2,q1,q2,rfl⟩:=hes;have q1:γ kk = .mat ob' cap' rows':=q1;rw[g1]at q1;cases q1;obtain⟨jj,hj⟩:=hmem _ List.mem_cons_self;obtain⟨b,rfl⟩:=Zpd hr.st hj (by omega);subst ho;have hrun:=ZFa (d:=d) (ty:=ty) (pos:=pos) (aft:=aft) (g:=g) hσ e1 e2 hSl j0 (by exact j2);rw[hb]at hrun;refine ZS hr hU hrun hd hX (x:=.rp kk j.toNat hv st s yy) ⟨[_],⟨_,rfl,Zie,λe' he'=>?_⟩,rfl⟩ ⟨hU _ hst,?_,(hr.ul _ (Zq he).1).2.1⟩ h
     ·rw[he]at he';cases he';exact⟨b,cap,rows,g1,rfl,j3,λ_=>⟨m,by unfold ZSb;exact ZIj,j1⟩⟩
     ·exact (hr.ul _ (Zq he).1).2.2
    ·exact h.elim
   | mid ty0 ty2 s m hv smid =>
    simp only at h;split at h
    ·rename_i hb;have hb:=eQ hb;obtain⟨yy,hyy,h⟩:=h;obtain⟨j0,j1,j2,j3⟩:=Zp hyy;obtain⟨ob,cap,rows,g1,rfl⟩:=hy;obtain⟨ob',cap',rows',es2,hsm,es3,q1,q2,q3,rfl⟩:=hes;have q1:γ kk = .mat ob' cap' rows':=q1;rw[g1]at q1;cases q1;obtain⟨jj,hj⟩:=hmem _ List.mem_cons_self;obtain⟨b,rfl⟩:=Zpd hr.st hj (by omega);subst ho;have hrun:=ZFa (d:=d) (ty:=ty) (pos:=pos) (aft:=aft) (g:=g) hσ e1 e2 hSl j0 (by exact j2);rw[hb]at hrun;refine ZS hr hU hrun hd hX (x:=.rp kk j.toNat hv st s yy) ⟨[_],⟨_,rfl,Zie,λe' he'=>?_⟩,rfl⟩ ⟨hU _ hst,?_,(hr.ul _ (Zq he).1).2.1⟩ h
     ·rw[he]at he';cases he';exact⟨b,cap,rows,g1,rfl,j3,λ_=>⟨m,by unfold ZSb;exact ZIj,j1⟩⟩
     ·exact (hr.ul _ (Zq he).1).2.2
    ·exact h.elim
   | box _ _=>exact h.elim
  ·rename_i s xs;obtain⟨qa,m,c,hy,hR⟩:=Zmo hp;rw[hy]at e1;split at h
   ·rename_i hb;have hb:=eQ hb;obtain⟨yy,hyy,h⟩:=h;obtain⟨j0,j1,j2,j3⟩:=Zp hyy;obtain⟨e3,b2,o2,cs2,rfl,h2,h3⟩:=ZGc hR j1;subst ho;have hrun:=ZFa (d:=d) (ty:=ty) (pos:=pos) (aft:=aft) (g:=g) hσ e1 e2 hSl j0 (by rw[e3];exact j2);rw[hb]at hrun;rw[ZW]at h2;exact ZS hr hU hrun hd hX (x:=.vp s yy 0) ⟨[_],⟨b2,_,cs2,h2,h3,rfl⟩,rfl⟩ trivial h
   ·exact h.elim
  ·rename_i m;obtain⟨cs,h1,h2⟩:=Zeh hp;have h1:Zx.rel v cs m:=h1;obtain⟨qa,n',k',rfl⟩:=ZKa h1;have hy:a.eval x = .slice qa n' k':=h2;rw[hy]at e1;split at h
   ·rename_i hb;have hb:=eQ hb;obtain⟨yy,hyy,h⟩:=h;obtain⟨j0,j1,j2,j3⟩:=Zp hyy;obtain⟨e3,b2,o2,cs2,rfl,h2,h3⟩:=ZGc (A:=Zd .u64) h1 j1;subst ho;have hrun:=ZFa (d:=d) (ty:=ty) (pos:=pos) (aft:=aft) (g:=g) hσ e1 e2 hSl j0 (by rw[e3];exact j2);rw[hb]at hrun;exact ZS hr hU hrun hd hX (x:=.vp (.int .u64) yy 0) ⟨[_],⟨b2,_,cs2,h2,h3,rfl⟩,rfl⟩ trivial h
   ·exact h.elim
  ·rename_i m;obtain⟨cs,h1,h2⟩:=Zeh hp;have h1:Zbb.rel v cs m:=h1;obtain⟨qa,n',k',rfl⟩:=ZPd h1;have hy:a.eval x = .slice qa n' k':=h2;rw[hy]at e1;split at h
   ·rename_i hb;have hb:=eQ hb;obtain⟨yy,hyy,h⟩:=h;obtain⟨j0,j1,j2,j3⟩:=Zp hyy;obtain⟨e3,b2,o2,cs2,rfl,h2,h3⟩:=ZGc (A:=Zd .u32) h1 j1;subst ho;have hrun:=ZFa (d:=d) (ty:=ty) (pos:=pos) (aft:=aft) (g:=g) hσ e1 e2 hSl j0 (by rw[e3];exact j2);rw[hb]at hrun;exact ZS hr hU hrun hd hX (x:=.vp (.int .u32) yy 0) ⟨[_],⟨b2,_,cs2,h2,h3,rfl⟩,rfl⟩ trivial h
   ·exact h.elim
  ·rename_i u i' hv cv s r;obtain⟨en,he,h⟩:=h;obtain⟨y,hy0,_,hy⟩:=Zoa hp (λ_ e=>by cases e) rfl rfl;have hy0:a.eval x=y:=(List.cons.inj hy0).1;rw[hy0]at e1;have hy:=hy en he;obtain⟨kk,st,L⟩:=en;obtain⟨hkk,es,hes,hmem⟩:=hr.loc he;have hkk:kk=u:=hkk;subst hkk
   cases L with
   | mat ty0 ty2 s' m hv' =>
    simp only at h;split at h
    ·rename_i b1 b2 b3;have b1:=eQ b1;have b2:=eQ b2;have b3:=eQ b3;subst b1 b2;obtain⟨yy,hyy,h⟩:=h;obtain⟨j0,j1,j2,j3⟩:=Zp hyy;obtain⟨ob,cap,rows,obi,capi,g1,g2,rfl,g4,g5⟩:=hy rfl;obtain⟨m',c1,c2⟩:=g5 rfl;obtain⟨c3,c4⟩:=Z3 c1
     cases c3;cases c4
     obtain⟨ob',cap',rows',es2,q1,q2,rfl⟩:=hes;have q1:γ kk = .mat ob' cap' rows':=q1;rw[g1]at q1;cases q1;obtain⟨p',cs,r1,r2,r3⟩:=Ztf q2 c2;rw[g2]at r1;cases r1;obtain⟨jj,hj⟩:=hmem _ (List.mem_cons_of_mem _ r3);obtain⟨bi,hbi⟩:=Zpd hr.st hj (by omega);have hbi:obi=some bi:=hbi;subst hbi;subst ho;have hrun:=ZFa (d:=d) (ty:=ty) (pos:=pos) (aft:=aft) (g:=g) hσ e1 e2 hSl j0 j2;rw[b3]at hrun;refine ZS hr hU hrun hd hX (x:=.rel kk i' j.toNat hv' st s r yy 0) ⟨[_],⟨_,rfl,Zie,λe' he'=>?_⟩,rfl⟩ ⟨hU _ hk.1,hU _ hk.2.1,hU _ hk.2.2⟩ h;rw[he]at he';cases he';exact λ_=>⟨_,_,_,bi,capi,g1,g2,rfl,g4,j3,λ_=>⟨⟨m,c1,c2⟩,j1⟩⟩
    ·rename_i b1 b2 b3;have b1:=eQ b1;have b3:=eQ b3;subst b1;split at h
     ·rename_i m' c1;obtain⟨c3,c4⟩:=Z3 c1
      cases c3;cases c4
      obtain⟨r',hr',h⟩:=h;obtain⟨_,i1,_,_⟩:=Zp hr';rw[tN]at i1;obtain⟨yy,hyy,h⟩:=h;obtain⟨j0,j1,j2,j3⟩:=Zp hyy;obtain⟨ob,cap,rows,obi,capi,g1,g2,rfl,⟨ri,g4,g6⟩,g5⟩:=hy rfl;rw[i1]at g4;cases g4;obtain⟨ob',cap',rows',es2,q1,q2,rfl⟩:=hes;have q1:γ kk = .mat ob' cap' rows':=q1;rw[g1]at q1;cases q1;obtain⟨p',cs,r1,r2,r3⟩:=Ztf q2 i1;rw[g2]at r1;cases r1;obtain⟨jj,hj⟩:=hmem _ (List.mem_cons_of_mem _ r3);obtain⟨bi,hbi⟩:=Zpd hr.st hj (by omega);have hbi:obi=some bi:=hbi;subst hbi;subst ho;rw[← g6]at e1;have hrun:=ZFa (d:=d) (ty:=ty) (pos:=pos) (aft:=aft) (g:=g) hσ e1 e2 hSl j0 j2;rw[b3]at hrun;refine ZS hr hU hrun hd hX (x:=.rel kk i' j.toNat hv' st _ r' yy 0) ⟨[_],⟨_,rfl,Zie,λe' he'=>?_⟩,rfl⟩ ⟨hU _ hk.1,hU _ hk.2.1,(hr.ul _ (Zq he).1).2.1⟩ h;rw[he]at he';cases he';exact λ_=>⟨_,_,_,bi,capi,g1,g2,rfl,⟨r',i1,rfl⟩,j3,λ_=>⟨⟨m,c1,i1⟩,j1⟩⟩
     ·exact h.elim
    ·exact h.elim
   | box _ _=>exact h.elim
   | mid _ _ _ _ _ _=>exact h.elim
   | own _ _ _ _=>exact h.elim
  ·exact h.elim
theorem lenE_ok (hr:RelX N G w0 v0 U X f l a w γ v ℓ) {t:TypeId} {x:Operand} {p:V} {k:Nat→Ev Unit} {Post:Unit→Fr→Lo→Prop} (hp:RV v γ l p (a.eval x)) (h:Zk n (lenE P t p k) f l Post) :
  ∃ m:Nat,(execOp a.eval ⟨d,.call ⟨.builtin .len,#[x],#[t]⟩,ty,pos,aft,g⟩).run P w = .ok (.value (.int .i64 m)) w∧inR .i64 (m:Int)∧Zk n (k m) f l Post:=by
 obtain⟨σ,hσ,e1⟩:=hr.st.ev1 x;unfold lenE at h;split at h
 ·obtain⟨h1,h2⟩:=ZWh hp;rw[h1]at e1;split at h
  ·rename_i ht;exact⟨_,Zuq hσ e1 rfl ht,str_inR h2,h⟩
  ·exact h.elim
 ·split at h
  ·exact h.elim
  ·rename_i q hq;have hSl:=ZAo hq;split at h
   ·rename_i u _;obtain⟨en,he,h⟩:=h;obtain⟨y,hy0,_,hy⟩:=Zoa hp (λ_ e=>by cases e) rfl rfl;have hy0:a.eval x=y:=(List.cons.inj hy0).1;rw[hy0]at e1;have hy:=hy en he;obtain⟨kk,st,L⟩:=en;obtain⟨hkk,es,hes,hmem⟩:=hr.loc he;have hkk:kk=u:=hkk;subst hkk
    cases L with
    | own ty0 s xs fz =>
     obtain⟨ob,cap,g1,rfl⟩:=hy;refine⟨_,Z8b hσ e1 rfl hSl,?_,h⟩
     cases fz with
     | false =>
      obtain⟨ob',cap',cs,q1,q2,rfl⟩:=hes;obtain⟨jj,hj⟩:=hmem _ (List.mem_singleton.2 rfl);exact ZVm hr.st hj
     | true =>
      obtain⟨ob',cap',q1,q2,_⟩:=hes;exact Zjh q2
    | mat ty0 ty2 s m hv =>
     obtain⟨ob,cap,rows,g1,rfl⟩:=hy;obtain⟨ob',cap',rows',es2,q1,q2,rfl⟩:=hes;obtain⟨jj,hj⟩:=hmem _ List.mem_cons_self;exact⟨_,Z8b hσ e1 rfl hSl,ZVm hr.st hj,h⟩
    | box _ _=>exact h.elim
    | mid _ _ _ _ _ _=>exact h.elim
   ·rename_i s xs _;obtain⟨qa,m,c,hy,hR⟩:=Zmo hp;have hm:m=xs.length:=by obtain⟨_,_,e,_⟩:=hR;cases e;rfl
    rw[hy,hm]at e1;rw[hm]at hR;exact⟨_,Z8b hσ e1 rfl hSl,Zjh hR,h⟩
   ·rename_i m _;obtain⟨cs,h1,h2⟩:=Zeh hp;have h1:Zx.rel v cs m:=h1;obtain⟨qa,n',k',rfl⟩:=ZKa h1;have hy:a.eval x = .slice qa n' k':=h2;have hm:n'=(Zc 18446744073709551616 m).length:=by obtain⟨_,_,e,_⟩:=h1;cases e;rfl
    rw[hy,hm]at e1;rw[hm]at h1;exact⟨_,Z8b hσ e1 rfl hSl,Zjh (A:=Zd .u64) h1,h⟩
   ·rename_i m _;obtain⟨cs,h1,h2⟩:=Zeh hp;have h1:Zbb.rel v cs m:=h1;obtain⟨qa,n',k',rfl⟩:=ZPd h1;have hy:a.eval x = .slice qa n' k':=h2;have hm:n'=(Zc 4294967296 m).length:=by obtain⟨_,_,e,_⟩:=h1;cases e;rfl
    rw[hy,hm]at e1;rw[hm]at h1;exact⟨_,Z8b hσ e1 rfl hSl,Zjh (A:=Zd .u32) h1,h⟩
   ·rename_i u i' hv cv s r _;obtain⟨en,he,h⟩:=h;obtain⟨y,hy0,_,hy⟩:=Zoa hp (λ_ e=>by cases e) rfl rfl;have hy0:a.eval x=y:=(List.cons.inj hy0).1;rw[hy0]at e1;have hy:=hy en he;obtain⟨kk,st,L⟩:=en;obtain⟨hkk,es,hes,hmem⟩:=hr.loc he;have hkk:kk=u:=hkk;subst hkk
    cases L with
    | mat ty0 ty2 s' m hv' =>
     simp only at h;split at h
     ·rename_i b1;have b1:=eQ b1;subst b1;obtain⟨ob,cap,rows,obi,capi,g1,g2,rfl,⟨ri,g4,g4'⟩,g5⟩:=hy rfl;obtain⟨ob',cap',rows',es2,q1,q2,rfl⟩:=hes;have q1:γ kk = .mat ob' cap' rows':=q1;rw[g1]at q1;cases q1;obtain⟨p',cs,r1,r2,r3⟩:=Ztf q2 g4;obtain⟨jj,hj⟩:=hmem _ (List.mem_cons_of_mem _ r3);have:=ZVm hr.st hj;rw[g4']at this;exact⟨_,Z8b hσ e1 rfl hSl,this,h⟩
     ·exact h.elim
    | box _ _=>exact h.elim
    | mid _ _ _ _ _ _=>exact h.elim
    | own _ _ _ _=>exact h.elim
   ·exact h.elim
theorem Z7s {t:TypeId} {q:Nat×Bool} (ht:szA P t=some q) {x z:V} {off:Nat} {cs:List Value} (hg:Zwa FU x off q.1 q.2=some z) (hx:RR v γ l false x cs) (hk:x.ok U) (w:World) :
  (part t cs.toArray off).run P w = .ok (z.val ((cs.drop off).take q.1)) w∧RR v γ l false z ((cs.drop off).take q.1)∧z.ok U:=by
 obtain⟨k1,k2,k3,k4,k5⟩:=ZYd FU hg hx hk;refine⟨?_,k1,k2⟩;have hS:=Zhg ht;unfold part
 cases hag:q.2 with
 | true =>
  have h1:=hS.agg w;rw[hag]at h1;have h3:(cs.toArray.extract off (off+q.1))=((cs.drop off).take q.1).toArray:=by
   apply Array.ext';rw[Array.toList_extract];simp[List.extract,List.take_drop]
  simp[h1,hS.size,V.val,k4,hag]
 | false =>
  have h1:=hS.agg w;rw[hag]at h1;have h2:=Z2d FU hg (by rw[k4,hag]);have h3:=ZGg k1 h2 (by rw[k4,hag]);have h4:cs[off]? = some (z.val ((cs.drop off).take q.1)):=by
   have:((cs.drop off).take q.1)[0]? = some (z.val ((cs.drop off).take q.1)):=by
    conv=>lhs;rw[h3]
    rfl
   rw[List.getElem?_take_of_lt (by omega),List.getElem?_drop]at this
   simpa using this
  have h4':cs.toArray[off]? = some (z.val ((cs.drop off).take q.1)):=by simpa using h4
  simp[h1,h4']
end
end Go.Eng
namespace Go.Eng
open Go.RowKit
def ZZd {α:Type} (p:Option Nat×Nat) (r:List α):Value:=.slice (mkA p.1) r.length p.2
section
variable {v:Zb} {ty:TypeId} {t:T}
theorem Zoj {α:Type}:∀ {rows:List (Option Nat×Nat)} {m:List (List α)} (k:Nat),(Zo rows m)[k]? = (rows[k]?).bind λp=>(m[k]?).map λr=>ZZd p r
 | [],_,_=>by simp[Zo]
 | _ :: _,[],k=>by cases h:(_ :: _:List (Option Nat×Nat))[k]? <;> simp[Zo]
 | p :: ps,r :: rs,0=>by simp[Zo,ZZd]
 | p :: ps,r :: rs,k+1=>by simpa [Zo] using Zoj (rows:=ps) (m:=rs) k
theorem Zjg:∀ {rows:List (Option Nat×Nat)} {m:List (List t.den)} {es:List Loc},Zua v ty t rows m es↔rows.length=m.length∧es.length=m.length∧∀ (k:Nat) (p:Option Nat×Nat) (r:List t.den),rows[k]? = some p→m[k]? = some r→∃ cs,t.rep.rels v cs r∧es[k]? = some (Loc.own p.1 ty t.n r.length p.2 cs)
 | [],[],es=>by
  constructor
  ·intro h
   rw[show es=[] from h]
   exact⟨rfl,rfl,λk p r h=>by simp at h⟩
  ·rintro⟨_,h,_⟩
   exact List.length_eq_zero_iff.1 h
 | p :: ps,r :: rs,es=>by
  constructor
  ·rintro⟨cs,es',h1,rfl,h3⟩
   obtain⟨k1,k2,k3⟩:=Zjg.1 h3
   refine⟨by simp[k1],by simp[k2],λk p' r' hp hr=>?_⟩
   cases k with
   | zero=>simp at hp hr;subst hp hr;exact⟨cs,h1,rfl⟩
   | succ k=>simp only[List.getElem?_cons_succ]at hp hr ⊢;exact k3 k p' r' hp hr
  ·rintro⟨h1,h2,h3⟩
   cases es with
   | nil=>simp at h2
   | cons x es' =>
    obtain⟨cs,q1,q2⟩:=h3 0 p r rfl rfl
    simp at q2
    refine⟨cs,es',q1,by rw[q2],Zjg.2 ⟨by simpa using h1,by simpa using h2,λk p' r' hp hr=>?_⟩⟩
    have:=h3 (k+1) p' r' (by simpa using hp) (by simpa using hr)
    simpa using this
 | [],_ :: _,es=>⟨λk=>k.elim,λk=>by simp at k⟩
 | _ :: _,[],es=>⟨λk=>k.elim,λk=>by simp at k⟩
theorem Znw {rows:List (Option Nat×Nat)} {m:List (List t.den)} {e1 e2:List Loc} {c:Loc} {p:Option Nat×Nat} {r':List t.den} {cs':List Value} (h:Zua v ty t rows m (e1++c :: e2)) (hr:t.rep.rels v cs' r') :
  (Zo rows m).take e1.length++[ZZd p r']++(Zo rows m).drop (e1.length+1)=Zo (rows.set e1.length p) (m.set e1.length r')∧Zua v ty t (rows.set e1.length p) (m.set e1.length r') (e1 ++ .own p.1 ty t.n r'.length p.2 cs' :: e2):=by
 obtain⟨k1,k2,k3⟩:=Zjg.1 h;have hlt:e1.length<m.length:=by rw[← k2];simp
 have hl:=ZUd k1;constructor
 ·have e:(Zo rows m).take e1.length++[ZZd p r']++(Zo rows m).drop (e1.length+1)=(Zo rows m).set e1.length (ZZd p r'):=by
   rw[List.set_eq_take_append_cons_drop,iP (by omega)];simp
  rw[e];apply List.ext_getElem?;intro k;rw[Zoj,List.getElem?_set,List.getElem?_set,List.getElem?_set];by_cases hk:e1.length=k
  ·rw[iP hk,iP hk,iP hk,iP (by omega),iP (by omega),iP (by omega)];rfl
  ·rw[iN hk,iN hk,iN hk,Zoj]
 ·refine Zjg.2 ⟨by simpa using k1,by simpa using k2,λk p' r2 hp hr2=>?_⟩;rw[List.getElem?_set]at hp hr2;by_cases hk:e1.length=k
  ·subst hk;rw[iP rfl,iP (by omega)]at hp hr2
   cases hp;cases hr2
   exact⟨cs',hr,by rw[List.getElem?_append_right (Nat.le_refl _)];simp⟩
  ·rw[iN hk]at hp hr2;obtain⟨cs,q1,q2⟩:=k3 k p' r2 hp hr2;refine⟨cs,q1,?_⟩;rw[← q2];by_cases hlt2:k<e1.length
   ·rw[List.getElem?_append_left hlt2,List.getElem?_append_left hlt2]
   ·rw[List.getElem?_append_right (by omega),List.getElem?_append_right (by omega)];obtain⟨j,hj⟩:∃ j,k-e1.length=j+1:=⟨k-e1.length-1,by omega⟩;rw[hj,List.getElem?_cons_succ,List.getElem?_cons_succ]
theorem ZCv {rows:List (Option Nat×Nat)} {m:List (List t.den)} {es:List Loc} {i j:Nat} {pi pj:Option Nat×Nat} {ri rj:List t.den} (h:Zua v ty t rows m es) (hi:rows[i]? = some pi) (hj:rows[j]? = some pj) (gi:m[i]? = some ri) (gj:m[j]? = some rj) :
  ((Zo rows m).set i (ZZd pj rj)).set j (ZZd pi ri)=Zo ((rows.set i pj).set j pi) (ZVd m i j)∧∃ es',es'.Perm es∧Zua v ty t ((rows.set i pj).set j pi) (ZVd m i j) es':=by
 obtain⟨k1,k2,k3⟩:=Zjg.1 h;have hl:=ZUd k1;have li:i<m.length:=(List.getElem?_eq_some_iff.1 gi).1;have lj:j<m.length:=(List.getElem?_eq_some_iff.1 gj).1;have hm:ZVd m i j=(m.set i rj).set j ri:=by
  unfold ZVd;rw[List.getD_eq_getElem?_getD,List.getD_eq_getElem?_getD,gi,gj];rfl
 obtain⟨ci,ri1,ri2⟩:=k3 i pi ri hi gi;obtain⟨cj,rj1,rj2⟩:=k3 j pj rj hj gj;have ei:i<es.length:=by omega
 have ej:j<es.length:=by omega
 have hei:es[i] = .own pi.1 ty t.n ri.length pi.2 ci:=(List.getElem?_eq_some_iff.1 ri2).2;have hej:es[j] = .own pj.1 ty t.n rj.length pj.2 cj:=(List.getElem?_eq_some_iff.1 rj2).2;rw[hm];refine⟨?_,(es.set i es[j]).set j es[i],List.set_set_perm ei ej,?_⟩
 ·apply List.ext_getElem?;intro k;rw[Zoj,List.getElem?_set,List.getElem?_set,List.getElem?_set,List.getElem?_set,List.getElem?_set,List.getElem?_set];simp only[List.length_set];by_cases hk:j=k
  ·rw[iP hk,iP hk,iP hk,iP (by omega),iP (by omega),iP (by omega)];rfl
  ·rw[iN hk,iN hk,iN hk];by_cases hk2:i=k
   ·rw[iP hk2,iP hk2,iP hk2,iP (by omega),iP (by omega),iP (by omega)];rfl
   ·rw[iN hk2,iN hk2,iN hk2,Zoj]
 ·refine Zjg.2 ⟨by simpa using k1,by simpa using k2,λk p' r2 hp hr2=>?_⟩;rw[List.getElem?_set,List.getElem?_set]at hp hr2 ⊢;simp only[List.length_set]at hp hr2 ⊢;by_cases hk:j=k
  ·rw[iP hk,iP (by omega)]at hp hr2
   cases hp;cases hr2
   exact⟨ci,ri1,by rw[iP hk,iP (by omega),hei]⟩
  ·rw[iN hk]at hp hr2 ⊢;by_cases hk2:i=k
   ·rw[iP hk2,iP (by omega)]at hp hr2
    cases hp;cases hr2
    exact⟨cj,rj1,by rw[iP hk2,iP (by omega),hej]⟩
   ·rw[iN hk2]at hp hr2 ⊢;exact k3 k p' r2 hp hr2
end
end Go.Eng
namespace Go.Eng
open Go.RowKit
variable {K:Nat} {w0:Base} {v0:Zb} {σ:List (Nat×Value)} {ℓ:List Loc} {v:Zb} {a:Act} {w:World}
theorem Zyp {α:Type} {A:Rep α} {v:Zb} {cs c d:List Value} {l:List α} {i sz m p:Nat} {x:α} (h:A.rels v cs l) (hi:i<l.length) (hc:(cs.drop (i*sz)).take sz=c)
  (hx:A.rel v (c.take p++d++c.drop (p+m)) x) (hsz:sz=A.n) (hp:p+m≤sz) :
  A.rels v (cs.take (0+i*sz+p)++d++cs.drop (0+i*sz+p+m)) (l.set i x):=by
 have hl:=Zmd h;have h1:i*sz+sz≤cs.length:=by
  rw[hl,← hsz,← Nat.succ_mul];exact mR _ hi
 have key:=Zyh (sz:=sz) (m:=sz) h hi hx hsz hsz;have e1:cs.take (0+i*sz+p)=cs.take (0+i*sz)++c.take p:=by
  rw[← hc,List.take_take,Nat.min_eq_left (by omega),Nat.zero_add,List.take_add]
 have e2:cs.drop (0+i*sz+p+m)=c.drop (p+m)++cs.drop (0+i*sz+sz):=by
  rw[← hc,List.drop_take,List.drop_drop,Nat.zero_add,show i*sz+p+m=i*sz+(p+m) by omega];have e3:cs.drop (i*sz+sz)=(cs.drop (i*sz+(p+m))).drop (sz-(p+m)):=by
   rw[List.drop_drop];congr 1;omega
  rw[e3,List.take_append_drop]
 rw[e1,e2]
 simpa [aAq] using key
theorem Zwq (hS:St K w0 v0 σ ℓ v a w) {j n cap sz:Nat} {b:Option Nat} {T:TypeId} {cs:List Value} (hj:ℓ[j]? = some (.own b T sz n cap cs)) {i p m:Nat} (h:i<n) (hp:p+m≤sz):0+i*sz+p+m≤cs.length:=by
 have:=Zri hS hj h;omega
end Go.Eng
