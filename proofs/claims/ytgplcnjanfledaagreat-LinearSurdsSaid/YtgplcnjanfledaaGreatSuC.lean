/- Lemmas towards the statement: the engine of the walks, the functions' models, laws and walks, part 3. Conditions: as each states. -/
import Derived.Laws.IdiomStrings
import Derived.LoopN
import Derived.Test.YtgplcnjanfledaaGreatSuB
set_option linter.all false
set_option maxHeartbeats 4000000
set_option maxRecDepth 100000
namespace Go.Eng
open Go.RowKit
variable {m:Act}{J:Array Edge}{Y:Bool}{Z:En LV}{S:En LV→List dY→Prop}{r:Fr}{β:Int}{P:IntKind}{U η:LV}{N:List (List dY)}{z:List (Nat×Value)}{A:List (Option Nat×Nat)}{s κ:List Value}{M d:List dY}{k μ:Lo}{I Q W f q α ξ:Nat}{ε:Nat×Bool}{b h:Nat→Prop}{K:Oper}{G ζ:Operand}{B:Option (Nat×Bool)}{C:Option Nat}{X:Option Nat×Nat}{o:Program}{O:String}{t:T}{p π:Type}{H:List (En p)}{δ:List p}{F l:TypeId}{i:Unit→Fr→Lo→Prop}{x:V}{u:Value}{R:V→Ev Unit}{e:V→Value→Prop}{L g:World}{c n θ:Zb}{j:dW}{y:p→Fr→Lo→Prop}
def BO(l:List UInt8):List Int:=l.map λb=>(b.toNat:Int)
theorem Kp(l:List UInt8):(BO l).length=l.length:=by simp[BO]
theorem Q9(v:Zb):∀l:List UInt8,ee.rels (Zd .u8) v (l.map λb=>Value.int .u8 b.toNat) (BO l)
 |[]=>rfl
 |b :: l=>⟨[.int .u8 b.toNat],l.map λb=>Value.int .u8 b.toNat,rfl,⟨rfl,Uc b⟩,Q9 v l⟩
theorem St.newView(h:St f j c z d n m g){o:Obj}(p:fD g L)(q:L.heap[g.heap.size]?= some o):
  ∃ b,n.le b∧b g.heap.size=some o∧St f j c z d b m L:=by
 have l:=h.vin.none (Nat.le_refl g.heap.size);refine⟨λk=>if k=g.heap.size then some o else n k,λk x a=>?_,by simp,h.step p ⟨λk x a=>?_,λk x a=>?_,λk a=>?_⟩⟩
 ·have:k≠g.heap.size:=λe=>by subst e;rw[l]at a;cases a
  simp[this,a]
 ·have:k≠g.heap.size:=λe=>by subst e;rw[l]at a;cases a
  simp[this,a]
 ·by_cases i:k=g.heap.size
  ·subst i;simp at a;subst a;exact q
  ·simp[i]at a;exact p.get (h.vin _ _ a)
 ·have:k≠g.heap.size:=by omega
  simp[this]
theorem Xh(s:St f j c z d n m g){e:TypeId}(a:List UInt8)(hs:o.underlying l=some .string)(E:o.underlying F=some (.slice e))(G:o.underlying e=some (.int .u8))(H:a.length≤maxLen):
  ∃ q k h w,(∀{p:Option Nat} {v:TypeId} {u:String} {i:Array Edge} {r:Option (Nat×Bool)} {x:Operand},ev z x=some (.string (Zt a))→(execOp m.eval ⟨p,.convert l F x,v,u,i,r⟩).run o g= .ok (.value (.slice q a.length k)) w)∧
   n.le h∧St f j c z d h m w∧(Zy (Zd .u8)).rel h [.slice q a.length k] (BO a):=by
 have I:=my a;have t:=run_bytes_of_string (P:=o) g l F e (Zt a) hs E G;rw[I]at t;have D:(bytesRow (Zt a) (grownCap g a.length 0 e)).toList.take a.length=a.map λb=>Value.int .u8 b.toNat:=by
  simp[bytesRow,Zt]
 have J:fD g (g.drew.alloc (.cells (bytesRow (Zt a) (grownCap g a.length 0 e)) e ((bytesRow (Zt a) (grownCap g a.length 0 e)).size,(bytesRow (Zt a) (grownCap g a.length 0 e)).size+1))):=(fD.drew g).trans (fD.alloc _ _);obtain⟨h,A,B,C⟩:=s.newView J (heap_alloc_new g.drew _);refine⟨some ⟨g.heap.size,0,none⟩,grownCap g a.length 0 e,h,_,λ{p v u i r x} y=>?_,A,C,some ⟨g.heap.size,0,none⟩,_,by rw[Kp],by rw[Kp];exact grownCap_ge _ _ _ _,grownCap_le_maxLen _ _ _ _ H,.inr ⟨g.heap.size,0,_,_,_,rfl,B,?_⟩⟩
 ·simp[execOp,s.eval y,t]
 ·rw[Kp,List.drop_zero,show(Zd .u8).n=1 from rfl,Nat.mul_one,D];exact Q9 h a
structure eu where
 args:List T
 res:List T
 F:ZF args→Option (ZF res)
structure f7 where
 args:List T
 ty:TypeId
 t:T
 F:ZF args→Option (List t.den)
structure iO where
 args:List T
 ty:TypeId
 ty2:TypeId
 t:T
 F:ZF args→Option (List (List t.den))
inductive CT where
 |dat (t:T)
 |own (ty:TypeId) (t:T)
 |mat (ty ty2:TypeId) (t:T)
 |nl
 |one (a:CT)
 |cons (a b:CT)
 |agg (c:CT)
 |box (ty:TypeId) (c:CT)
def CT.den:CT→Type
 |.dat t=>t.den
 |.own _ t=>List t.den
 |.mat _ _ t=>List (List t.den)
 |.nl=>Unit
 |.one a=>a.den
 |.cons a b=>a.den×b.den
 |.agg c=>c.den
 |.box _ c=>c.den
variable {D:List (List t.den)}{w:List t.den}{E:t.den}
structure fk where
 ty:TypeId
 c:CT
 args:List T
 res:List T
 F:c.den→ZF args→Option (c.den×ZF res)
structure il where
 ty:TypeId
 t:T
 F:List t.den→Int→Int→Option (List t.den)
structure Ex where
 omats:List (FuncId×iO):=[]
 boxs:List (FuncId×fk):=[]
 dels:List (FuncId×il):=[]
structure Cf where
 P:Program
 leafs:List (TypeId×Nat)
 cons:List (FuncId×eu)
 mats:List Nat
 owns:List (FuncId×f7)
 meths:List ((TypeId×String)×FuncId)
 ex:Ex:={}
abbrev Cf.omats(C:Cf):=C.ex.omats
abbrev Cf.boxs(C:Cf):=C.ex.boxs
abbrev Cf.dels(C:Cf):=C.ex.dels
def EM:List ((TypeId×String)×FuncId)→TypeId→String→Option FuncId
 |[],_,_=>none
 |p :: r,t,m=>match Nat.beq p.1.1 t,p.1.2==m with
  |true,true=>some p.2
  |_,_=>EM r t m
def ww(f:TypeId→Option T):TypeId→List Field→Option T
 |t,[]=>f t
 |t,h :: r=>match f t,ww f h.type r with
  |some a,some b=>some (.pair a b)
  |_,_=>none
def iz(a:T):Nat→T
 |0=>.one a
 |1=>.one a
 |2=>.pair a a
 |k+3=>.pair a (iz a (k+2))
def jX(a:T):(n:Nat)→(iz a n).den→List a.den
 |0,_=>[]
 |1,x=>[x]
 |2,x=>[x.1,x.2]
 |k+3,x=>x.1 :: jX a (k+2) x.2
def qy(C:Cf):Nat→TypeId→Option T
 |0,_=>none
 |g+1,t=>match fV C.leafs t with
  |some i=>some (.leaf i)
  |none=>match C.P.underlying t with
   |some (.int k)=>some (.int k)
   |some .bool=>some .bool
   |some .string=>some .str
   |some (.slice e)=>match qy C g e with
    |some a=>some (.slice a)
    |none=>none
   |some (.array n e)=>match qy C g e,Nat.blt 0 n with
    |some a,true=>some (iz a n)
    |_,_=>none
   |some (.struct b)=>match b.toList with
    |[]=>none
    |[f]=>match qy C g f.type with
     |some a=>some (.one a)
     |none=>none
    |f :: h :: r=>ww (qy C g) f.type (h :: r)
   |_=>none
def AH:(i:Nat)→Option (JV i)
 |0=>some (0:Nat)
 |1=>some (0:Nat)
 |2=>some (0:Int)
 |3=>some (0:Rat)
 |8=>some jK
 |_=>none
def lJ(a:T):(n:Nat)→(iz a n).den→Nat→a.den→(iz a n).den
 |0,x,_,_=>x
 |1,x,i,y=>match i with
  |0=>y
  |_+1=>x
 |2,x,i,y=>match i with
  |0=>(y,x.2)
  |1=>(x.1,y)
  |_+2=>x
 |k+3,x,i,y=>match i with
  |0=>(y,x.2)
  |i+1=>(x.1,lJ a (k+2) x.2 i y)
def xf:(t:T)→Option t.den
 |.int _=>some (0:Int)
 |.bool=>some false
 |.str=>some ([]:List UInt8)
 |.one a=>xf a
 |.pair a b=>match xf a,xf b with
  |some x,some y=>some (x,y)
  |_,_=>none
 |.slice _=>some []
 |.leaf i=>AH i
 |.ptr _=>none
def oz:List Value→Option (List Value)
 |.slice none 0 0 :: r=>some r
 |_=>none
def z9:List Value→Option (List Value)
 |.bool false :: .slice none 0 0 :: .bool false :: .slice none 0 0 :: .bool false :: .slice none 0 0 :: .bool false :: .slice none 0 0 :: .slice none 0 0 :: r=>some r
 |_=>none
def lU:T→List Value→Option (List Value)
 |.int k,.int d n :: r=>match wH k d,n with
  |true,.ofNat 0=>some r
  |_,_=>none
 |.bool,.bool false :: r=>some r
 |.str,.string s :: r=>match s.data.toList with
  |[]=>some r
  |_=>none
 |.one a,c=>lU a c
 |.pair a b,c=>match lU a c with
  |some r=>lU b r
  |none=>none
 |.slice _,c=>oz c
 |.leaf 0,c=>oz c
 |.leaf 1,c=>oz c
 |.leaf 2,.bool false :: c=>oz c
 |.leaf 3,.bool false :: c=>match oz c with
  |some r=>oz r
  |none=>none
 |.leaf 8,c=>z9 c
 |_,_=>none
def A'(t:T)(a:List Value):Option (V×List Value):=match xf t,lU t a with
 |some x,some r=>some (.data t x,r)
 |_,_=>none
def HQ(f:TypeId→List Value→Option (V×List Value)):List Field→List Value→Option (V×List Value)
 |[],a=>some (.nl,a)
 |h :: r,a=>match f h.type a with
  |some (v,a)=>match HQ f r a with
   |some (c,a)=>some (.cons v c,a)
   |none=>none
  |none=>none
def uS(f:List Value→Option (V×List Value)):Nat→List Value→Option (V×List Value)
 |0,a=>some (.nl,a)
 |k+1,a=>match f a with
  |some (v,a)=>match uS f k a with
   |some (c,a)=>some (.cons v c,a)
   |none=>none
  |none=>none
def Cz(C:Cf):Nat→TypeId→List Value→Option (V×List Value)
 |0,_,_=>none
 |g+1,t,a=>match fV C.leafs t with
  |some 4=>match a with
   |.bool false :: .slice none 0 0 :: .slice none 0 0 :: r=>some (.agg (.cons (.data .bool false) (.cons (.data (.leaf 1) (0:Nat)) (.cons (.data (.leaf 1) (0:Nat)) .nl))),r)
   |_=>none
  |some i=>A' (.leaf i) a
  |none=>match C.P.underlying t with
   |some (.int k)=>A' (.int k) a
   |some .bool=>A' .bool a
   |some .string=>A' .str a
   |some (.slice _)=>match oz a with
    |some r=>some (.nilS,r)
    |none=>none
   |some (.struct b)=>match HQ (Cz C g) b.toList a with
    |some (c,r)=>some (.agg c,r)
    |none=>none
   |some (.array n e)=>match uS (Cz C g e) n a with
    |some (c,r)=>some (.agg c,r)
    |none=>none
   |_=>none
def Iw(C:Cf)(t:TypeId):Option V:=match C.P.info? t with
 |some i=>match i.zero with
  |some z=>match Cz C FU t z.cells.toList with
   |some (v,[])=>some v
   |_=>none
  |none=>none
 |none=>none
def EA:TypeDesc→Bool
 |.struct _=>true
 |.array _ _=>true
 |_=>false
def kW(P:Program)(t:TypeId):Option (Nat×Bool):=match P.info? t,P.underlying t with
 |some i,some d=>some (i.size,EA d)
 |_,_=>none
def yZ(P:Program)(s:TypeId)(f:Nat):Option Nat:=match P.underlying s with
 |some (.struct a)=>match a.toList[f]? with
  |some h=>match P.info? h.type with
   |some i=>match Nat.blt 0 i.size with
    |true=>some h.offset
    |false=>none
   |none=>none
  |none=>none
 |_=>none
def r7(P:Program)(s:TypeId)(f:Nat):Option Field:=match P.underlying s with
 |some (.struct a)=>a.toList[f]?
 |_=>none
def CN(P:Program)(t:TypeId):Option (TypeId×Nat):=match P.underlying t with
 |some (.slice e)=>match P.info? e with
  |some i=>some (e,i.size)
  |none=>none
 |_=>none
structure EI where
 e:TypeId
 sz:Nat
 by_:Nat
 z:Value
def xk(P:Program)(t:TypeId):Option EI:=match P.underlying t with
 |some (.slice e)=>match P.info? e with
  |some i=>match i.zero with
   |some z=>match Nat.beq z.cells.toList.length i.size,Nat.blt 0 i.size,Nat.blt 0 i.bytes with
    |true,true,true=>some ⟨e,i.size,i.bytes,z⟩
    |_,_,_=>none
   |none=>none
  |none=>none
 |_=>none
def GN:Value→Option V
 |.bool b=>some (.data .bool b)
 |.int k n=>if eJ k n then some (.data (.int k) n) else none
 |.string s=>if s.data.toList.length≤maxLen then some (.data .str s.data.toList) else none
 |.slice none 0 0=>some .nilS
 |_=>none
def fu{a:Type}(x:Operand)(k:V→Ev a):Ev a:=match x with
 |.tmp t=>.rdS t k
 |.const c=>match GN c with
  |some v=>k v
  |none=>.fail
 |.func f=>k (.fn f .nl)
 |.global _=>.fail
def ret(o:Oper)(v:V):Ev Unit:=match o.dst with
 |some d=>.wrS d v (.done ())
 |none=>.fail
def l7{a:Type}(v:V)(k:IntKind→Int→Ev a):Ev a:=match v with
 |.data (.int b) x=>k b x
 |_=>.fail
def K4{a:Type}(v:V)(k:Bool→Ev a):Ev a:=match v with
 |.data .bool x=>k x
 |_=>.fail
def zN:V→Nat→Option V
 |.cons a _,0=>some a
 |.cons _ b,n+1=>zN b n
 |_,_=>none
def rh:V→V→V
 |.cons a b,c=>.cons a (rh b c)
 |_,c=>c
def yB{b:Type}(c:BinOp)(a:IntKind)(x y:Int)(k:V→Ev b):Ev b:=match c with
 |.add=>match a.signed with
  |true=>.bind (chk a (x+y)) λz=>k (.data (.int a) z)
  |false=>k (.data (.int a) (a.wrap (x+y)))
 |.sub=>match a.signed with
  |true=>.bind (chk a (x-y)) λz=>k (.data (.int a) z)
  |false=>k (.data (.int a) (a.wrap (x-y)))
 |.mul=>match a.signed with
  |true=>.bind (chk a (x*y)) λz=>k (.data (.int a) z)
  |false=>k (.data (.int a) (a.wrap (x*y)))
 |.quo=>.bind (quo a x y) λz=>k (.data (.int a) z)
 |.rem=>.bind (rem a x y) λz=>k (.data (.int a) z)
 |.and=>k (.data (.int a) (iL a x y))
 |.or=>k (.data (.int a) (fw a x y))
 |.xor=>k (.data (.int a) (AG a x y))
 |.lss=>k (.data .bool (decide (x<y)))
 |.leq=>k (.data .bool (decide (x≤y)))
 |.gtr=>k (.data .bool (decide (y<x)))
 |.geq=>k (.data .bool (decide (y≤x)))
 |.eql=>k (.data .bool (x==y))
 |.neq=>k (.data .bool (x != y))
 |_=>.fail
def yA{b:Type}(P:Program)(op:BinOp)(t:TypeId)(v c:V)(k:V→Ev b):Ev b:=match v,c with
 |.data (.int a) x,.data (.int d) y=>match op with
  |.shl=>.bind (hG a x y) λz=>k (.data (.int a) z)
  |.shr=>.bind (ZN a x y) λz=>k (.data (.int a) z)
  |op=>match wH a d with
   |true=>yB op a x y k
   |false=>.fail
 |.data .bool (x:Bool),.data .bool (y:Bool)=>match P.underlying t with
  |some .bool=>match op with
   |.eql=>k (.data .bool (x==y))
   |.neq=>k (.data .bool (x != y))
   |_=>.fail
  |_=>.fail
 |.data .str (x:List UInt8),.data .str (y:List UInt8)=>match op with
  |.add=>.bind (jg (x++y)) λ_=>k (.data .str (x++y))
  |.eql=>k (.data .bool (x==y))
  |.neq=>k (.data .bool (x != y))
  |_=>.fail
 |_,_=>.fail
def Nz{h:Type}(P:Program)(t:TypeId)(p:V)(k:V→Ev h):Ev h:=match kW P t with
 |none=>.fail
 |some s=>match p with
  |.ptr u a=>.rdL u λ_ L=>match L with
   |.box _ c=>match f8 FU c a s.1 s.2 with
    |some z=>k z
    |none=>.fail
   |_=>.fail
  |.el u i b e x a=>.rdL u λd L=>match L with
   |.own _ _ _ _=>match Nat.beq d b with
    |true=>match f8 FU (.data e x) a s.1 s.2 with
     |some z=>k z
     |none=>.fail
    |false=>.fail
   |.box l (.data j n)=>match P.underlying l with
    |some (.array m _)=>match T.cast j (iz e m) n,Nat.beq a 0,Nat.blt 0 m with
     |some o,true,true=>.bind (dX (jX e m o) (i:Int)) λy=>match f8 FU (.data e y) 0 s.1 s.2 with
      |some z=>k z
      |none=>.fail
     |_,_,_=>.fail
    |_=>.fail
   |_=>.fail
  |.vp e x a=>match f8 FU (.data e x) a s.1 s.2 with
   |some z=>k z
   |none=>.fail
  |.rp u i f b e r=>.rdL u λd L=>match L with
   |.mat _ _ _ _ g=>match Nat.beq g f,Nat.beq d b,s.2 with
    |true,true,false=>k (.row u i f b e r)
    |_,_,_=>.fail
   |_=>.fail
  |.rel u _ _ f b e _ x a=>.rdL u λd L=>match L with
   |.mat _ _ _ _ g=>match Nat.beq g f,Nat.beq d b with
    |true,true=>match f8 FU (.data e x) a s.1 s.2 with
     |some z=>k z
     |none=>.fail
    |_,_=>.fail
   |_=>.fail
  |_=>.fail
def V.plain:V→Bool
 |.undef |.tup _=>false
 |.cons a b=>match a.plain with
  |true=>b.plain
  |false=>false
 |.agg c=>c.plain
 |_=>true
def V.fit(v:V):Bool:=match v.plain,v.isAgg with
 |true,true=>true
 |true,false=>Nat.beq v.size 1
 |false,_=>false
def mJ(s t:T)(l:List s.den):Option (List t.den):=T.cast (.slice s) (.slice t) l
def jz(s t:T)(m:List (List s.den)):Option (List (List t.den)):=T.cast (.slice (.slice s)) (.slice (.slice t)) m
def jY(i j:Nat):Option Unit:=if i=j then some () else none
def nF{a:Type}(m:List (List a))(i j:Nat):List (List a):=(m.set i (m.getD j [])).set j (m.getD i [])
def NH(P:Program)(w:Nat)(t:TypeId)(p v:V):Ev Unit:=match kW P t with
 |none=>.fail
 |some q=>match Nat.beq v.size q.1,rU v.isAgg q.2,v.fit with
  |true,true,true=>match p with
   |.ptr u e=>.rdL u λ_ L=>match L with
    |.box a c=>match iI FU c e v with
     |some I=>.wrL u (.box a I) (.done ())
     |none=>.fail
    |_=>.fail
   |.el u i k s x e=>match iI FU (.data s x) e v with
    |some z=>conv FU s z λy=>.rdL u λn L=>match L with
     |.own a b l false=>match Nat.beq e 0,Nat.beq v.size s.n,Nat.beq n k with
      |true,true,_=>match T.cast s b y with
       |some C=>.wrL u (.own a b (l.set i C) false) (.done ())
       |none=>.fail
      |_,_,true=>match T.cast s b y with
       |some C=>.wrL u (.own a b (l.set i C) false) (.done ())
       |none=>.fail
      |_,_,_=>.fail
     |.box a (.data A K)=>match P.underlying a with
      |some (.array m _)=>match Nat.beq e 0,Nat.beq v.size s.n,T.cast A (iz s m) K,Nat.blt 0 m with
       |true,true,some M,true=>.bind (Vo i m) λ_=>match T.cast (iz s m) A (lJ s m M i y) with
        |some N=>.wrL u (.box a (.data A N)) (.done ())
        |none=>.fail
       |_,_,_,_=>.fail
      |_=>.fail
     |_=>.fail
    |none=>.fail
   |.rp u i _ _ _ _=>match v with
    |.own f=>.rdL u λ_ L=>match L with
     |.mat a d s m _=>.rdL f λ_ h=>match h with
      |.own B b l false=>match Nat.beq B d,mJ b s l with
       |true,some o=>.del f (.wrL u (.mat a d s (m.set i o) w) (.done ()))
       |_,_=>.fail
      |_=>.fail
     |.mid a d s m _ (.hol j)=>.bind (jY i j) λ_=>.rdL f λ_ h=>match h with
      |.own B b l false=>match Nat.beq B d,mJ b s l with
       |true,some o=>.del f (.wrL u (.mat a d s (m.set i o) w) (.done ()))
       |_,_=>.fail
      |_=>.fail
     |_=>.fail
    |.row f j E _ _ _=>.rdL u λ_ L=>match L with
     |.mat a d s m g=>match Nat.beq f u,Nat.beq g E with
      |true,true=>.wrL u (.mid a d s m g (.swp i j)) (.done ())
      |_,_=>.fail
     |.mid a d s m g (.swp F G)=>match Nat.beq f u,Nat.beq g E with
      |true,true=>.bind (jY i G) λ_=>.bind (jY j F) λ_=>.wrL u (.mat a d s (nF m F G) w) (.done ())
      |_,_=>.fail
     |_=>.fail
    |_=>.fail
   |.rel u i j g k s r x e=>match iI FU (.data s x) e v with
    |some z=>.rdL u λ_ H=>match H with
     |.mat _ _ _ _ _=>conv FU s z λy=>.rdL u λn L=>match L with
      |.mat a d b m D=>match Nat.beq D g,Nat.beq n k with
       |true,true=>match mJ s b (r.set j y) with
        |some J=>.wrL u (.mat a d b (m.set i J) D) (.done ())
        |none=>.fail
       |_,_=>.fail
      |_=>.fail
     |_=>.fail
    |none=>.fail
   |_=>.fail
  |_,_,_=>.fail
def Vs(C:Cf)(o:Oper):Bool:=match o.dst with
 |some d=>lY C.mats d
 |none=>false
def onT(C:Cf)(o:Oper):Bool:=match o.dst with
 |some d=>lY C.mats (d+100000)
 |none=>false
def ot(P:Program)(o:Oper)(c:Nat)(t:TypeId)(p:V):Ev Unit:=match kW P t with
 |none=>.fail
 |some s=>match p,s.2 with
  |.rp u i h f e r,false=>.rdL u λg L=>match L with
   |.mat j d a m b=>match Nat.beq b h,Nat.beq g f,mJ e a r with
    |true,true,some z=>.wrL u (.mid j d a m b (.hol i)) (.new c (.own d a z false) (ret o (.own c)))
    |_,_,_=>.fail
   |_=>.fail
  |_,_=>.fail
def shift:V→Nat→Option V
 |.ptr u a,k=>some (.ptr u (a+k))
 |.vp t x a,k=>some (.vp t x (a+k))
 |.el u i b t x a,k=>some (.el u i b t x (a+k))
 |.rel u i j c b t r x a,k=>some (.rel u i j c b t r x (a+k))
 |_,_=>none
def nY{a:Type}(v:V)(k:Ev a):Ev a:=match v with
 |.ptr u _=>.rdL u λ_ L=>match L with
  |.box _ _=>k
  |_=>.fail
 |.vp _ _ _=>k
 |.el u _ _ _ _ _=>.rdL u λ_ L=>match L with
  |.own _ _ _ _=>k
  |_=>.fail
 |.rel u _ _ b _ _ _ _ _=>.rdL u λ_ L=>match L with
  |.mat _ _ _ _ c=>match Nat.beq c b with
   |true=>k
   |false=>.fail
  |_=>.fail
 |_=>.fail
def Nx(P:Program)(o:Oper)(t:TypeId)(v:V)(j:Int):Ev Unit:=match P.underlying t with
 |some (.array n e)=>match P.info? e,decide (0≤j),decide (j<n) with
  |some i,true,true=>match shift v (j.toNat*i.size) with
   |some z=>nY v (ret o z)
   |none=>.fail
  |_,_,_=>.fail
 |_=>.fail
def Ny(C:Cf)(o:Oper)(t:TypeId)(v:V)(j:Int):Ev Unit:=match C.P.underlying t with
 |some (.array n e)=>match kW C.P e,v.isAgg,decide (0≤j),decide (j<n) with
  |some q,true,true,true=>match f8 FU v (j.toNat*q.1) q.1 q.2 with
   |some z=>ret o z
   |none=>.fail
  |_,_,_,_=>.fail
 |_=>.fail
def IG(P:Program)(o:Oper)(t:TypeId)(v:V)(j:Int):Ev Unit:=match CN P t with
 |none=>Nx P o t v j
 |some q=>match v with
  |.own u=>.rdL u λb L=>match L with
   |.own _ s l _=>match Nat.beq q.2 s.n with
    |true=>.bind (dX l j) λy=>ret o (.el u j.toNat b s y 0)
    |false=>.fail
   |.mat _ _ s m a=>match Nat.beq q.2 1 with
    |true=>.bind (dX m j) λr=>ret o (.rp u j.toNat a b s r)
    |false=>.fail
   |.mid _ _ s m a _=>match Nat.beq q.2 1 with
    |true=>.bind (dX m j) λr=>ret o (.rp u j.toNat a b s r)
    |false=>.fail
   |_=>.fail
  |.data (.slice s) l=>match Nat.beq q.2 s.n with
   |true=>.bind (dX l j) λy=>ret o (.vp s y 0)
   |false=>.fail
  |.data (.leaf 0) (n:Nat)=>match Nat.beq q.2 1 with
   |true=>.bind (dX (Zc 18446744073709551616 n) j) λy=>ret o (.vp (.int .u64) y 0)
   |false=>.fail
  |.data (.leaf 1) (n:Nat)=>match Nat.beq q.2 1 with
   |true=>.bind (dX (Zc 4294967296 n) j) λy=>ret o (.vp (.int .u32) y 0)
   |false=>.fail
  |.row u i a b s r=>.rdL u λc L=>match L with
   |.mat _ _ g m e=>match Nat.beq e a,Nat.beq c b,Nat.beq q.2 s.n with
    |true,true,true=>.bind (dX r j) λy=>ret o (.rel u i j.toNat a b s r y 0)
    |true,false,true=>match jz g s m with
     |some f=>.bind (dX f (i:Int)) λd=>.bind (dX d j) λy=>ret o (.rel u i j.toNat a c s d y 0)
     |none=>.fail
    |_,_,_=>.fail
   |_=>.fail
  |_=>.fail
def zE{a:Type}(P:Program)(t:TypeId)(v:V)(k:Nat→Ev a):Ev a:=match v with
 |.data .str (s:List UInt8)=>match P.underlying t with
  |some .string=>k s.length
  |_=>.fail
 |v=>match CN P t with
  |none=>.fail
  |some _=>match v with
   |.own u=>.rdL u λ_ L=>match L with
    |.own _ _ l _=>k l.length
    |.mat _ _ _ m _=>k m.length
    |_=>.fail
   |.data (.slice _) l=>k l.length
   |.nilS=>k 0
   |.data (.leaf 0) (n:Nat)=>k (Zc 18446744073709551616 n).length
   |.data (.leaf 1) (n:Nat)=>k (Zc 4294967296 n).length
   |.row u _ b _ _ r=>.rdL u λ_ L=>match L with
    |.mat _ _ _ _ c=>match Nat.beq c b with
     |true=>k r.length
     |_=>.fail
    |_=>.fail
   |_=>.fail
def zd{a:Type}(P:Program)(s:TypeId)(f:Nat)(v:V)(k:V→Ev a):Ev a:=match yZ P s f with
 |some h=>match shift v h with
  |some z=>nY v (k z)
  |none=>.fail
 |none=>.fail
def qg{a:Type}:List Operand→(V→Ev a)→Ev a
 |[],k=>k .nl
 |x :: r,k=>fu x λv=>match v with
  |.tup _=>.fail
  |v=>qg r λc=>k (.cons v c)
def pY{a:Type}:(ts:List T)→V→(ZF ts→Ev a)→Ev a
 |[],.nl,k=>k ()
 |[t],.cons v .nl,k=>conv FU t v k
 |t :: u :: r,.cons v c,k=>conv FU t v λx=>pY (u :: r) c λy=>k (x,y)
 |_,_,_=>.fail
def nO{a:Type}(t:T):V→(List t.den→Ev a)→Ev a
 |.nl,k=>k []
 |.cons v c,k=>conv FU t v λx=>nO t c λl=>k (x :: l)
 |_,_=>.fail
def vn:(ts:List T)→ZF ts→V
 |[],_=>.nl
 |[t],x=>.cons (.data t x) .nl
 |t :: u :: r,x=>.cons (.data t x.1) (vn (u :: r) x.2)
def po:V→V
 |.cons v .nl=>v
 |c=>.tup c
def rd(o:Oper)(a:Nat)(q:EI)(p:Option Nat)(k:V):Ev Unit:=match k with
 |.own b=>.rdL b λ_ j=>match j with
  |.mat e i g c _=>match p with
   |none=>match Nat.beq q.e e,Nat.beq q.sz 1 with
    |true,true=>.bind (ZE q.by_ ([]++c)) λ_=>.del b (.new a (.mat e i g ([]++c) a) (ret o (.own a)))
    |_,_=>.fail
   |some u=>match Nat.beq u b with
    |true=>.fail
    |false=>.rdL u λ_ L=>match L with
     |.mat d h s m _=>match jz g s c,Nat.beq d e,Nat.beq h i,Nat.beq q.e d,Nat.beq q.sz 1 with
      |some f,true,true,true,true=>.bind (ZE q.by_ (m++f)) λ_=>.del b (.del u (.new a (.mat d h s (m++f) a) (ret o (.own a))))
      |_,_,_,_,_=>.fail
     |_=>.fail
  |_=>.fail
 |_=>.fail
def yv(C:Cf)(o:Oper)(a:Nat)(t:TypeId)(v c:V):Ev Unit:=match xk C.P t with
  |none=>.fail
  | some q=>match v with
    | .own u=>.rdL u λ_ L=>match L with
      | .own _ s _ _=>conv FU (.slice s) c λy=>.rdL u λ_ L=>match L with
        | .own d b l false=>match mJ s b y,Nat.beq q.e d,Nat.beq q.sz b.n with
          |some g,true,true=>.bind (ZE q.by_ (l++g)) λ_=>.del u (.new a (.own d b (l++g) false) (ret o (.own a)))
          |_,_,_=>.fail
        |_=>.fail
      |.mat _ _ _ _ _=>rd o a q (some u) c
      |_=>.fail
    | .row u i k h s r=>conv FU (.slice s) c λ(y:List s.den)=>.rdL u λj L=>match L with
      | .mat d e b m f=>match Nat.beq f k,Nat.beq j h,mJ s b (r++y),Nat.beq q.e e,Nat.beq q.sz b.n with
        |true,true,some z,true,true=>.bind (ZE q.by_ z) λ_=>.wrL u (.mid d e b m f (.hol i)) (.new a (.own e b z false) (ret o (.own a)))
        |_,_,_,_,_=>.fail
      |_=>.fail
    |.nilS=>match Vs C o with
     |true=>rd o a q none c
     |false=>match qy C FU q.e with
      | some s=>match Nat.beq q.sz s.n with
        |true=>conv FU (.slice s) c λ(y:List s.den)=>.bind (ZE q.by_ ([]++y)) λ_=>.new a (.own q.e s ([]++y) false) (ret o (.own a))
        |false=>.fail
      |none=>.fail
    |_=>.fail
def tE(P:Program)(s:TypeId):V→List (Nat×V)→Option V
 |z,[]=>some z
 |z,p :: r=>match r7 P s p.1 with
  |some h=>match kW P h.type with
   |some q=>match Nat.beq p.2.size q.1,p.2.fit,iI FU z h.offset p.2 with
    |true,true,some a=>tE P s a r
    |_,_,_=>none
   |none=>none
  |none=>none
def tD(n sz:Nat):V→List (Nat×V)→Option V
 |z,[]=>some z
 |z,p :: r=>match Nat.blt p.1 n,Nat.beq p.2.size sz,p.2.fit,iI FU z (p.1*sz) p.2 with
  |true,true,true,some a=>tD n sz a r
  |_,_,_,_=>none
def Hd(P:Program):List Field→Bool
 |[]=>true
 |h :: r=>match P.info? h.type with
  |some _=>Hd P r
  |none=>false
def kB:List (Nat×Operand)→V→List (Nat×V)
 |p :: r,.cons v c=>(p.1,v) :: kB r c
 |_,_=>[]
def yk:V→V
 |.data t x=>match pX t x with
  |some c=>.agg c
  |none=>.data t x
 |v=>v
def H':Nat→List (Nat×Operand)→Bool
 |_,[]=>true
 |k,p :: r=>match Nat.beq p.1 k with
  |true=>H' (k+1) r
  |false=>false
def AU:Option Int→Int→Int
 |some h,_=>h
 |none,n=>n
def lK(P:Program)(o:Oper)(t:TypeId)(v:V)(lo a:Option Int):Ev Unit:=match v with
 |.data (.slice s) l=>match CN P t with
  |some q=>match Nat.beq q.2 s.n with
   |true=>.bind (Z4 l (AU lo 0) (AU a (l.length:Int))) λy=>ret o (.data (.slice s) y)
   |false=>.fail
  |none=>.fail
 |.data .str (l:List UInt8)=>match P.underlying t with
  |some .string=>.bind (Z4 l (AU lo 0) (AU a (l.length:Int))) λy=>ret o (.data .str y)
  |_=>.fail
 |_=>.fail
def zT{a:Type}(x:Option Operand)(k:Option Int→Ev a):Ev a:=match x with
 |none=>k none
 |some x=>fu x λv=>l7 v λ_ i=>k (some i)
def yx(C:Cf)(o:Oper)(t:TypeId)(s u f:Nat)(lo d:Option Int):Ev Unit:=match Nat.beq f 0,lo,d,C.P.underlying t with
 |true,none,none,some (.array n e)=>match qy C FU e,kW C.P e,Nat.blt 0 n,Nat.ble n 1000 with
  |some a,some q,true,true=>match Nat.beq q.1 a.n with
   |true=>.rdL u λ_ L=>match L with
    |.box _ c=>conv FU (iz a n) c λx=>.rdL u λ_ b=>match b with
     |.box _ _=>.del u (.wrS s (.vp (iz a n) x 0) (ret o (.data (.slice a) (jX a n x))))
     |_=>.fail
    |_=>.fail
   |false=>.fail
  |_,_,_,_=>.fail
 |_,_,_,_=>.fail
def ED(a:Nat)(o:Oper)(c:il):V→Ev Unit
 |.cons (.own u) (.cons (.data (.int .i64) (i:Int)) (.cons (.data (.int .i64) (j:Int)) .nl))=>.rdL u λ_ L=>match L with
  |.own d s l false=>match Nat.beq d c.ty,mJ s c.t l with
   |true,some b=>.bind (c.F b i j) λz=>.del u (.new a (.own c.ty c.t z false) (ret o (.own a)))
   |_,_=>.fail
  |_=>.fail
 |_=>.fail
def GD(C:Cf)(a:Nat)(o:Oper)(f:FuncId)(b:V):Ev Unit:=match fV C.cons f with
 |some c=>pY c.args b λp=>.bind (c.F p) λz=>ret o (po (vn c.res z))
 |none=>match fV C.owns f with
  |some c=>pY c.args b λp=>.bind (c.F p) λz=>.new a (.own c.ty c.t z false) (ret o (.own a))
  |none=>match fV C.omats f with
   |some c=>pY c.args b λp=>.bind (c.F p) λz=>.new a (.mat c.ty c.ty2 c.t z a) (ret o (.own a))
   |none=>match fV C.dels f with
    |some c=>ED a o c b
    |none=>.fail
def SB:Operand→Bool
 |.const (.pointer none)=>true
 |_=>false
def Z3(C:Cf)(g:Nat)(o:Oper):Ev Unit:=match o.op with
  |.move x=>fu x (ret o)
  | .assign x=>match SB x with
    |true=>.new g (.box 0 .undef) (.del g (ret o (.ptr g 0)))
    |false=>fu x (ret o)
  | .nilCheck x=>fu x λv=>match v with
    |.data (.ptr a) y=>ret o (.vp a y 0)
    |v=>nY v (ret o v)
  |.pick (.tmp c) a b=>.test c (fu a (ret o)) (fu b (ret o))
  | .extract x i=>fu x λv=>match v with
    | .tup c=>match zN c i with
      |some z=>ret o z
      |none=>.fail
    |_=>.fail
  | .alloc t=>match Iw C t with
    |some z=>.new g (.box t z) (ret o (.ptr g 0))
    |none=>.fail
  | .box t x=>fu x λv=>match v.fit with
    |true=>.new g (.box t v) (ret o (.ptr g 0))
    |false=>.fail
  | .load t x=>fu x λp=>match onT C o with
    |true=>ot C.P o g t p
    |false=>Nz C.P t p (ret o)
  | .store t x y=>match o.dst with
    |none=>fu x λp=>fu y λv=>NH C.P g t p v
    |some _=>.fail
  |.fieldAddr s x f=>fu x λv=>zd C.P s f v (ret o)
  | .field s x f=>fu x λv=>match r7 C.P s f,v.isAgg with
    | some h,true=>match kW C.P h.type with
      | some q=>match f8 FU v h.offset q.1 q.2 with
        |some z=>ret o z
        |none=>.fail
      |none=>.fail
    |_,_=>.fail
  |.indexAddr t x i=>fu x λv=>fu i λw=>l7 w λ_ j=>IG C.P o t v j
  | .index t x i=>fu x λv=>fu i λw=>l7 w λ_ j=>match v with
    | .data .str (l:List UInt8)=>match C.P.underlying t with
      |some .string=>.bind (dX l j) λ(y:UInt8)=>ret o (.data (.int .u8) ((y.toNat:Nat):Int))
      |_=>.fail
    |v=>Ny C o t v j
  |.binOp O t x y _=>fu x λv=>fu y λw=>yA C.P O t v w (ret o)
  |.unOp .not _ x=>fu x λv=>K4 v λb=>ret o (.data .bool (!b))
  |.unOp .neg _ x=>fu x λv=>l7 v λk i=>ret o (.data (.int k) (k.wrap (-i)))
  | .convert s d x=>fu x λv=>match v,C.P.underlying s,C.P.underlying d with
    | .data (.int k) i,some _,some (.int B)=>match wH k B with
      |true=>ret o (.data (.int k) i)
      |false=>ret o (.data (.int B) (B.wrap i))
    |.data .str (l:List UInt8),some .string,some .string=>ret o (.data .str l)
    | .data .str (l:List UInt8),some .string,some (.slice e)=>match C.P.underlying e with
      |some (.int .u8)=>ret o (.data (.slice (.int .u8)) (BO l))
      |_=>.fail
    |_,_,_=>.fail
  | .makeFunc (.func f) first I=>match first.toList with
    |[]=>qg I.toList λc=>ret o (.fn f c)
    |_=>.fail
  | .makeInterface t x=>fu x λv=>match v.fit with
    | true=>match C.P.underlying t with
      |some (.interface _)=>.fail
      |some _=>ret o (.ifc t v)
      |none=>.fail
    |false=>.fail
  | .makeSlice t l c=>fu l λv=>fu c λw=>l7 v λ_ i=>l7 w λ_ j=>match xk C.P t,o.dst with
    | some q,some d=>.bind (mk q.by_ i j) λ_=>match lY C.mats d with
      | true=>match xk C.P q.e,oz q.z.cells.toList,Nat.beq q.sz 1 with
        | some D,some _,true=>match qy C FU D.e with
          | some s=>match Nat.beq D.sz s.n with
            |true=>.new g (.mat q.e D.e s (List.replicate i.toNat []) g) (ret o (.own g))
            |false=>.fail
          |none=>.fail
        |_,_,_=>.fail
      | false=>match qy C FU q.e with
        | some s=>match xf s,lU s q.z.cells.toList,Nat.beq q.sz s.n with
          |some z,some _,true=>.new g (.own q.e s (List.replicate i.toNat z) false) (ret o (.own g))
          |_,_,_=>.fail
        |none=>.fail
    |_,_=>.fail
  | .buildSlice t n A=>match xk C.P t with
    |some q=>match Vs C o with
     |true=>match n,A.toList with
      | 1,[(0,x)]=>fu x λv=>match v,xk C.P q.e,oz q.z.cells.toList with
        | .own H,some D,some _=>.rdL H λ_ L=>match L with
          | .own G s l false=>match Nat.beq D.e G,Nat.beq D.sz s.n,Nat.beq q.sz 1 with
            |true,true,true=>.del H (.new g (.mat q.e G s [l] g) (ret o (.own g)))
            |_,_,_=>.fail
          |_=>.fail
        |_,_,_=>.fail
      |_,_=>.fail
     |false=>match qy C FU q.e,H' 0 A.toList,Nat.beq A.toList.length n,Nat.ble (n*q.sz) 16777216 with
      | some s,true,true,true=>match Nat.beq q.sz s.n with
        |true=>qg (A.toList.map (·.2)) λc=>nO s c λl=>.new g (.own q.e s l false) (ret o (.own g))
        |false=>.fail
      |_,_,_,_=>.fail
    |none=>.fail
  | .build t A=>match Iw C t,C.P.underlying t with
    | some z,some (.struct J)=>match Hd C.P J.toList,(yk z).isAgg,z.isAgg with
      | true,true,true=>match A.toList with
        |[]=>ret o z
        | l=>qg (l.map (·.2)) λc=>match tE C.P t (yk z) (kB l c) with
          |some F=>ret o F
          |none=>.fail
      |_,_,_=>.fail
    | some z,some (.array n e)=>match C.P.info? e,(yk z).isAgg,z.isAgg with
      | some i,true,true=>qg (A.toList.map (·.2)) λc=>match tD n i.size (yk z) (kB A.toList c) with
        |some F=>ret o F
        |none=>.fail
      |_,_,_=>.fail
    |_,_=>.fail
  | .slice t x lo M none=>zT lo λi=>zT M λj=>fu x λv=>match v with
    | .own u=>.rdL u λ_ L=>match L with
      |.own _ s _ _=>conv FU (.slice s) v λl=>lK C.P o t (.data (.slice s) l) i j
      |_=>.fail
    |.data (.leaf 0) (n:Nat)=>lK C.P o t (.data (.slice (.int .u64)) (Zc 18446744073709551616 n)) i j
    |.data (.leaf 1) (n:Nat)=>lK C.P o t (.data (.slice (.int .u32)) (Zc 4294967296 n)) i j
    | .ptr u N=>match x with
      |.tmp s=>yx C o t s u N i j
      |_=>.fail
    |v=>lK C.P o t v i j
  | .call c=>match c.callee with
    | .builtin .len=>match c.args.toList,c.argTypes.toList with
      |[x],[t]=>fu x λv=>zE C.P t v λn=>ret o (.data (.int .i64) (n:Int))
      |_,_=>.fail
    | .builtin .append=>match c.args.toList,c.argTypes.toList with
      | [x,y],[t,P]=>match Nat.beq t P with
        |true=>fu x λv=>fu y λw=>yv C o g t v w
        |false=>.fail
      |_,_=>.fail
    | .builtin .max=>match c.args.toList with
      | [x,y]=>fu x λv=>fu y λw=>l7 v λk i=>l7 w λB j=>match wH k B with
        |true=>ret o (.data (.int k) (max i j:Int))
        |false=>.fail
      |_=>.fail
    | .builtin .min=>match c.args.toList with
      | [x,y]=>fu x λv=>fu y λw=>l7 v λk i=>l7 w λB j=>match wH k B with
        |true=>ret o (.data (.int k) (min i j:Int))
        |false=>.fail
      |_=>.fail
    | .value x=>fu x λK=>qg c.args.toList λE=>match K with
      |.fn f .nl=>GD C g o f E
      |_=>.fail
    | .invoke x m=>fu x λr=>qg c.args.toList λE=>match r with
      | .ifc t v=>match EM C.meths t m with
        |some f=>GD C g o f (.cons v E)
        |none=>.fail
      |_=>.fail
    |_=>.fail
  |_=>.fail
def AP(o:Oper):Ev Unit:=match o.dst with
 |some d=>.wrS d .undef (.done ())
 |none=>.done ()
def wB(C:Cf)(b:List Oper)(a:Nat)(o:Oper):Ev Unit:=match o.guard with
 |none=>Z3 C a o
 |some (j,w)=>match b[j]? with
  |some q=>match q.dst with
   |some t=>.rdS t λx=>match x with
    |.undef=>AP o
    |.data .bool _=>match w with
     |true=>.test t (Z3 C a o) (AP o)
     |false=>.test t (AP o) (Z3 C a o)
    |_=>.fail
   |none=>.fail
  |none=>.fail
structure Fp where
 rs:Nat
 ws:Nat
 rl:Nat
 wl:Nat
def Fp.no:Fp:=⟨0,0,0,0⟩
def gm(m k:Nat):Nat:=Nat.lor m (Nat.pow 2 k)
def ki{c a:Type}(n:Nat):Ev c→Fr→Lo→Fp→(c→Fr→Lo→Fp→Option a)→Option a
 |.fail,_,_,_,_=>none
 |.done r,f,l,p,K=>K r f l p
 |.rdS t k,f,l,p,K=>match eC f t with
  |some x=>ki n (k x.x) f l ⟨gm p.rs t,p.ws,p.rl,p.wl⟩ K
  |none=>none
 |.rdL u k,f,l,p,K=>match eC l u with
  |some x=>ki n (k x.st x.x) f l ⟨p.rs,p.ws,gm p.rl u,p.wl⟩ K
  |none=>none
 |.wrS t x e,f,l,p,K=>ki n e (⟨t,n,x⟩ :: f) l ⟨p.rs,gm p.ws t,p.rl,p.wl⟩ K
 |.wrL u L e,f,l,p,K=>ki n e f (⟨u,n,L⟩ :: era l u) ⟨p.rs,p.ws,p.rl,gm p.wl u⟩ K
 |.new u L e,f,l,p,K=>match eC l u with
  |none=>ki n e f (⟨u,n,L⟩ :: l) ⟨p.rs,p.ws,gm p.rl u,gm p.wl u⟩ K
  |some _=>none
 |.del u e,f,l,p,K=>ki n e f (era l u) ⟨p.rs,p.ws,p.rl,gm p.wl u⟩ K
 |.bind x k,f,l,p,K=>dU x λy=>ki n (k y) f l p K
 |.test t d g,f,l,p,K=>match eC f t with
  |some ⟨_,s,.data .bool b⟩=>dV b (ki n d (⟨t,s,.data .bool true⟩ :: f) l ⟨gm p.rs t,p.ws,p.rl,p.wl⟩ K) (ki n g (⟨t,s,.data .bool false⟩ :: f) l ⟨gm p.rs t,p.ws,p.rl,p.wl⟩ K)
  |_=>none
def Fp.free(p q:Fp):Bool:=Nat.beq (Nat.lor (Nat.lor (Nat.land p.ws (Nat.lor q.rs q.ws)) (Nat.land p.rs q.ws)) (Nat.lor (Nat.land p.wl (Nat.lor q.rl q.wl)) (Nat.land p.rl q.wl))) 0
def kj(done:List Nat):List Edge→Nat→Nat
 |[],m=>m
 |e :: r,m=>match Region.binds .any e with
  |true=>kj done r (Nat.lor (gm m e.on) (done.getD e.on 0))
  |false=>kj done r m
def gv:List Oper→List Nat→List Nat
 |[],done=>done
 |o :: r,done=>gv r (done++[kj done o.after.toList 0])
def p7(m:Nat)(q:Fp):List Fp→Nat→Bool
 |[],_=>true
 |p :: r,i=>match Nat.testBit m i with
  |true=>p7 m q r (i+1)
  |false=>match p.free q with
   |true=>p7 m q r (i+1)
   |false=>false
def mc:List Fp→List Nat→List Fp→Bool
 |_,_,[]=>true
 |a,m :: b,q :: c=>match p7 m q a 0 with
  |true=>mc (a++[q]) b c
  |false=>false
 |_,[],_ :: _=>false
def CB(i:Nat):List Edge→Bool
 |[]=>true
 |e :: r=>match Region.binds .any e with
  |true=>match Nat.blt e.on i with
   |true=>CB i r
   |false=>false
  |false=>CB i r
def kJ:Nat→List Oper→Bool
 |_,[]=>true
 |i,o :: r=>match CB i o.after.toList with
  |true=>kJ (i+1) r
  |false=>false
inductive Pl where
 |sl (s:Nat)
 |fld (p:Pl) (off:Nat)
inductive Vr where
 |s (t:Nat) (c:CT)
 |l (p:Pl) (c:CT)
def Vr.ct:Vr→CT
 |.s _ c=>c
 |.l _ c=>c
def wx:List CT→CT
 |[]=>.nl
 |[v]=>.one v
 |v :: w :: r=>.cons v (wx (w :: r))
inductive Kd where
 |norm |exit (id:Nat) |ret
structure Js where
 keep:List Nat
 drop:List Pl
 vs:List Vr
structure Jn where
 head:Js
 outs:List (Kd×Js)
inductive eV where
 |no
 |two (a b:eV)
 |cut (c:Jn) (a:eV)
 |unroll (k:Nat) (a:eV)
 |sel (i:Nat) (a b:eV)
structure Kt(α:Type) where
 norm:Fr→Lo→Nat→Option α
 exit:Nat→Fr→Lo→Nat→Option α
 ret:V→Lo→Nat→Option α
def eV.fst:eV→eV
 |.two a _=>a
 |_=>.no
def eV.snd:eV→eV
 |.two _ b=>b
 |_=>.no
def IF:V→Option Nat
 |.own u=>some u
 |.ptr u 0=>some u
 |_=>none
def lD(f:Fr)(l:Lo):Pl→Option Nat
 |.sl s=>match eC f s with
  |some v=>IF v.x
  |none=>none
 |.fld p a=>match lD f l p with
  |some u=>match eC l u with
   |some ⟨_,_,.box _ c⟩=>match f8 FU c a 1 false with
    |some v=>IF v
    |none=>none
   |_=>none
  |none=>none
def fP{h:Type}:Nat→(c:CT)→V→(c.den→Ev h)→Ev h
 |0,_,_,_=>.fail
 |g+1,c,v,K=>match c,K with
  |.dat t,K=>conv FU t v K
  |.own d t,K=>match v with
   |.own u=>.rdL u λ_ L=>match L with
    |.own e f l false=>match Nat.beq d e,mJ f t l with
     |true,some n=>.del u (K n)
     |_,_=>.fail
    |_=>.fail
   |.nilS=>K []
   |_=>.fail
  |.mat d j t,K=>match v with
   |.own u=>.rdL u λ_ L=>match L with
    |.mat e k f m _=>match Nat.beq d e,Nat.beq j k,T.cast (.slice (.slice f)) (.slice (.slice t)) m with
     |true,true,some i=>.del u (K i)
     |_,_,_=>.fail
    |_=>.fail
   |.nilS=>K []
   |_=>.fail
  |.nl,K=>match v with
   |.nl=>K ()
   |_=>.fail
  |.one a,K=>match v with
   |.cons x .nl=>fP g a x K
   |_=>.fail
  |.cons a b,K=>match v with
   |.cons x y=>fP g a x λp=>fP g b y λq=>K (p,q)
   |_=>.fail
  |.agg c,K=>match v with
   |.agg x=>fP g c x K
   |_=>.fail
  |.box d c,K=>match v with
   |.ptr u 0=>.rdL u λ_ L=>match L with
    |.box e x=>match Nat.beq d e with
     |true=>.del u (fP g c x K)
     |false=>.fail
    |_=>.fail
   |_=>.fail
def Zl:(c:CT)→c.den→Nat→V×Lo×Nat
 |.dat t,x,n=>(.data t x,[],n)
 |.own d t,x,n=>(.own n,[⟨n,n,.own d t x false⟩],n+1)
 |.mat d g t,x,n=>(.own n,[⟨n,n,.mat d g t x n⟩],n+1)
 |.nl,_,n=>(.nl,[],n)
 |.one a,x,n=>match Zl a x n with
  |(v,l,m)=>(.cons v .nl,l,m)
 |.cons a b,x,n=>match Zl a x.1 n with
  |(v,l,m)=>match Zl b x.2 m with
   |(h,e,f)=>(.cons v h,l++e,f)
 |.agg c,x,n=>match Zl c x n with
  |(v,l,m)=>(.agg v,l,m)
 |.box d c,x,n=>match Zl c x (n+1) with
  |(v,l,m)=>(.ptr n 0,⟨n,n,.box d v⟩ :: l,m)
def hZ(l:Lo)(u:Nat):Nat:=match eC l u with
 |some ⟨_,_,.mat _ _ _ _ a⟩=>a
 |_=>0
def mI{i:Type}(h:Nat)(c:CT)(u:Nat)(K:c.den→Ev i):Ev i:=match c,K with
 |.agg (.mat a f t),K=>.rdL u λ_ L=>match L with
  |.mat b g d m j=>match Nat.beq a b,Nat.beq f g,T.cast (.slice (.slice d)) (.slice (.slice t)) m,Nat.beq j h with
   |true,true,some e,true=>.del u (K e)
   |_,_,_,_=>.fail
  |_=>.fail
 |.own a t,K=>.rdL u λ_ L=>match L with
  |.own b d k false=>match Nat.beq a b,mJ d t k with
   |true,some l=>.del u (K l)
   |_,_=>.fail
  |_=>.fail
 |.mat a f t,K=>.rdL u λ_ L=>match L with
  |.mat b g d m _=>match Nat.beq a b,Nat.beq f g,T.cast (.slice (.slice d)) (.slice (.slice t)) m with
   |true,true,some e=>.del u (K e)
   |_,_,_=>.fail
  |_=>.fail
 |.box a c,K=>.rdL u λ_ L=>match L with
  |.box b x=>match Nat.beq a b with
   |true=>.del u (fP FU c x K)
   |false=>.fail
  |_=>.fail
 |_,_=>.fail
def vN{d:Type}(b:Fr)(a:Lo):(vs:List Vr)→((wx (vs.map Vr.ct)).den→Ev d)→Ev d
 |[],K=>K ()
 |[.s t c],K=>.rdS t λv=>fP FU c v K
 |[.l p c],K=>match lD b a p with
  |some u=>mI (hZ a u) c u K
  |none=>.fail
 |.s t c :: w :: r,K=>.rdS t λv=>fP FU c v λx=>vN b a (w :: r) λy=>K (x,y)
 |.l p c :: w :: r,K=>match lD b a p with
  |some u=>mI (hZ a u) c u λx=>vN b a (w :: r) λy=>K (x,y)
  |none=>.fail
def nh(f:Fr):List Nat→Fr
 |[]=>[]
 |s :: r=>match eC f s with
  |some e=>e :: nh f r
  |none=>nh f r
def fN(h:Nat)(c:CT)(x:c.den)(u n:Nat):Lo×Nat:=match c,x with
 |.agg (.mat a b t),x=>([⟨u,n,.mat a b t x h⟩],n+1)
 |.own a t,x=>([⟨u,n,.own a t x false⟩],n+1)
 |.mat a b t,x=>([⟨u,n,.mat a b t x n⟩],n+1)
 |.box a c,x=>match Zl c x (n+1) with
  |(v,l,m)=>(⟨u,n,.box a v⟩ :: l,m)
 |_,_=>([],n)
def jP(b:Fr)(a:Lo):(vs:List Vr)→(wx (vs.map Vr.ct)).den→Nat→Fr×Lo×Nat
 |[],_,n=>([],[],n)
 |[.s t c],x,n=>match Zl c x (n+1) with
  |(v,l,m)=>([⟨t,n,v⟩],l,m)
 |[.l p c],x,n=>match lD b a p with
  |some u=>match fN (hZ a u) c x u n with
   |(l,m)=>([],l,m)
  |none=>([],[],n)
 |.s t c :: w :: r,x,n=>match Zl c x.1 (n+1) with
  |(v,l,m)=>match jP b a (w :: r) x.2 m with
   |(d,e,f)=>(⟨t,n,v⟩ :: d,l++e,f)
 |.l p c :: w :: r,x,n=>match lD b a p with
  |some u=>match fN (hZ a u) c x.1 u n with
   |(l,m)=>match jP b a (w :: r) x.2 m with
    |(d,e,f)=>(d,l++e,f)
  |none=>([],[],n)
def nU(a:Fr)(b:Lo):List Pl→List Nat
 |p :: r=>match lD a b p with
  |some u=>u :: nU a b r
  |none=>nU a b r
 |[]=>[]
def nC(a:Fr)(b:Lo):List Vr→List Nat
 |.s t _ :: r=>match lD a b (.sl t) with
  |some u=>u :: nC a b r
  |none=>nC a b r
 |.l p _ :: r=>match lD a b p with
  |some u=>u :: nC a b r
  |none=>nC a b r
 |[]=>[]
def EF(a:Fr)(b:Lo)(c:List Pl)(d:List Vr):List Nat:=nU a b c++nC a b d
def kv:V→List Nat→List Nat
 |.own u,r=>u :: r
 |.row u _ _ _ _ _,r=>u :: r
 |.ptr u _,r=>u :: r
 |.el u _ _ _ _ _,r=>u :: r
 |.rp u _ _ _ _ _,r=>u :: r
 |.rel u _ _ _ _ _ _ _ _,r=>u :: r
 |.cons a b,r=>kv a (kv b r)
 |.agg c,r=>kv c r
 |.tup c,r=>kv c r
 |.fn _ c,r=>kv c r
 |_,r=>r
def zj:Fr→List Nat
 |[]=>[]
 |e :: r=>kv e.x (zj r)
def D2(l:Lo):Nat→List Nat→List Nat→List Nat
 |0,_,a=>a
 |_,[],a=>a
 |g+1,u :: r,a=>match lY a u with
  |true=>D2 l g r a
  |false=>match eC l u with
   |some ⟨_,_,.box _ c⟩=>D2 l g (kv c r) (u :: a)
   |_=>D2 l g r (u :: a)
def pF(b:Nat)(a c:List Nat):Lo→Lo
 |[]=>[]
 |e :: r=>match lY c e.k with
  |true=>pF b a c r
  |false=>match Nat.ble b e.k with
   |false=>e :: pF b a c r
   |true=>match lY a e.k with
    |true=>e :: pF b a c r
    |false=>pF b a c r
def oi(b:Nat)(c:Fr)(a:Lo)(j:Js)(d:List Vr):Lo:=pF b (D2 a 50 (zj (nh c j.keep)) []) (EF c a j.drop d) a
def DK(n:Nat)(f:Fr):List Nat→Bool
 |[]=>true
 |s :: r=>match eC f s with
  |some e=>match Nat.ble n e.st with
   |true=>false
   |false=>DK n f r
  |none=>false
def Ej(n:Nat)(l:Lo):Lo→Bool
 |[]=>true
 |e :: r=>match eC l e.k with
  |some a=>match Nat.ble n a.st with
   |true=>false
   |false=>Ej n l r
  |none=>false
def build{d:Type}(b:Nat)(a:Fr)(c:Lo)(j:Js)(x:(wx (j.vs.map Vr.ct)).den)(n:Nat)(K:Fr→Lo→Nat→d):d:=match jP a c j.vs x n with
 |(e,f,m)=>K (e++nh a j.keep) (f++oi b a c j j.vs) m
def zx:Kd→Kd→Bool
 |.norm,.norm=>true
 |.ret,.ret=>true
 |.exit i,.exit j=>Nat.beq i j
 |_,_=>false
abbrev jT(j:Js):Type:=(wx (j.vs.map Vr.ct)).den
def kA:List (Kd×Js)→Type
 |[]=>Empty
 |[o]=>jT o.2
 |o :: p :: r=>jT o.2 ⊕ kA (p :: r)
def qD{e:Type}(b d n:Nat)(a:Fr)(c:Lo)(f:Fr)(l:Lo)(j:Js)(K:jT j→Option e):Option e :=
 iH n (vN a c j.vs λx=>.done x) f l λx _ g=>match DK d f j.keep,Ej d g (oi b a c j j.vs) with
  |true,true=>K x
  |_,_=>none
def jt(n:Nat):Nat→V→Fr
 |k,.cons v c=>⟨k,n,v⟩ :: jt n (k+1) c
 |_,_=>[]
def nX:V→Nat
 |.cons _ c=>nX c+1
 |_=>0
def tj:Nat→List Vr→Option Nat
 |k,[]=>some k
 |k,.s t _ :: r=>match Nat.beq t k with
  |true=>tj (k+1) r
  |false=>none
 |k,.l _ _ :: r=>tj k r
def Ei{a:Type}(b f n:Nat)(d:Fr)(e:Lo)(c:V)(l:Lo)(j:Js)(K:jT j→Option a):Option a:=match j.keep,tj 1000 j.vs with
 |[],some k=>match Nat.beq (1000+nX c) k with
  |true=>qD b f (n+1) d e (jt n 1000 c) l j K
  |false=>none
 |_,_=>none
def Gy(f:Fr):Nat→Nat→Option V
 |0,_=>some .nl
 |g+1,t=>match eC f t,Gy f g (t+1) with
  |some ⟨_,_,.tup _⟩,_=>none
  |some e,some c=>some (.cons e.x c)
  |_,_=>none
def mC{h:Type}(b g n:Nat)(a:Fr)(e:Lo)(d:Kd)(c:V)(f:Fr)(l:Lo):(os:List (Kd×Js))→(kA os→Option h)→Option h
 |[],_=>none
 |[o],K=>match zx o.1 d with
  |true=>match d with
   |.ret=>Ei b g n a e c l o.2 K
   |_=>qD b g n a e f l o.2 K
  |false=>none
 |o :: p :: r,K=>match zx o.1 d with
  |true=>match d with
   |.ret=>Ei b g n a e c l o.2 λx=>K (.inl x)
   |_=>qD b g n a e f l o.2 λx=>K (.inl x)
  |false=>mC b g n a e d c f l (p :: r) λx=>K (.inr x)
def Ad{a:Type}(b:List Vr)(K:V→Lo→Nat→Option a)(f:Fr)(l:Lo)(m:Nat):Option a:=match tj 1000 b with
 |some k=>match Gy f (k-1000) 1000 with
  |some c=>K c l m
  |none=>none
 |none=>none
def A3{d:Type}(b:Nat)(a:Fr)(c:Lo)(n:Nat)(K:Kt d)(o:Kd×Js)(x:jT o.2):Option d:=match o.1 with
 |.norm=>build b a c o.2 x n K.norm
 |.exit i=>build b a c o.2 x n (K.exit i)
 |.ret=>build b a c o.2 x n (Ad o.2.vs K.ret)
def nK{d:Type}(b:Nat)(a:Fr)(c:Lo)(n:Nat)(K:Kt d):(os:List (Kd×Js))→kA os→Option d
 |[],_=>none
 |[o],x=>A3 b a c n K o x
 |o :: p :: r,x=>match x with
  |.inl y=>A3 b a c n K o y
  |.inr y=>nK b a c n K (p :: r) y
abbrev Go(a:Type):=eV→Fr→Lo→Nat→Kt a→Option a
def A5{k:Type}(b:Nat)(m:eV)(f:Fr)(l:Lo)(n:Nat)(K:Kt k)(g:(β:Type)→Go β):Option k:=match m with
 | .cut j a=>dU (g (kA j.outs) a f l n
   {
    norm:=λh d e=>mC b n e f l .norm .nl h d j.outs some,
    exit:=λi h d e=>mC b n e f l (.exit i) .nl h d j.outs some,
    ret:=λc d e=>mC b n e f l .ret c [] d j.outs some }) λx=>nK b f l n K j.outs x
 |a=>g k a f l n K
def rounds{b:Type}(g:(β:Type)→Go β)(a:eV):Nat→Fr→Lo→Nat→Kt b→Option b
 |0,_,_,_,_=>none
 |k+1,f,l,n,K=>g b a f l n { K with norm:=λf l n=>rounds g a k f l n K }
def nZ{o:Type}(b:Nat)(p:eV)(f:Fr)(l:Lo)(n:Nat)(K:Kt o)(g:(β:Type)→Go β):Option o:=match p with
 | .cut j a=>qD b n n f l f l j.head λz=>dU (Zg (λs=>build b f l j.head s n λq r m=>g (jT j.head ⊕ kA j.outs) a q r m
    {
     norm:=λh d e=>qD b n e f l h d j.head λx=>some (.inl x),
     exit:=λi h d e=>mC b n e f l (.exit i) .nl h d j.outs λx=>some (.inr x),
     ret:=λc d e=>mC b n e f l .ret c [] d j.outs λx=>some (.inr x) }) Zh z)
    λx=>nK b f l n K j.outs x
 |.unroll k a=>rounds g a k f l n K
 |_=>none
def lR(f:Fr)(x:Operand):Option V:=match x with
 |.tmp t=>match eC f t with
  |some e=>some e.x
  |none=>none
 |.const c=>GN c
 |.func g=>some (.fn g .nl)
 |.global _=>none
def Hi(f:Fr):List Operand→Option V
 |[]=>some .nl
 |x :: r=>match lR f x,Hi f r with
  |some (.tup _),_=>none
  |some v,some c=>some (.cons v c)
  |_,_=>none
abbrev fq:=(α:Type)→FuncId→V→Lo→Nat→(V→Lo→Nat→Option α)→Option α
def EB(C:Cf)(o:Oper)(g:FuncId):Bool:=match o.dst with
 |some d=>match lY C.mats (d+300000) with
  |true=>false
  |false=>match fV C.cons g,fV C.owns g,fV C.omats g,fV C.dels g with
   |none,none,none,none=>false
   |_,_,_,_=>true
 |none=>true
def Ih(C:Cf)(f:Fr)(o:Oper):Option (FuncId×V):=match o.op with
 |.call c=>match c.callee with
  |.value x=>match lR f x with
   |some (.fn g b)=>match EB C o g with
    |true=>none
    |false=>match Hi f c.args.toList with
     |some a=>some (g,rh a b)
     |none=>none
   |_=>none
  |_=>none
 |_=>none
def lL{a:Type}(cf:fq)(o:Oper)(g:FuncId)(b:V)(f:Fr)(l:Lo)(n:Nat)(K:Fr→Lo→Nat→Option a):Option a:=match o.dst with
 |some d=>cf a g b l (n+1) λr c m=>K (⟨d,n,po r⟩ :: f) c m
 |none=>none
def GM{a:Type}(o:Oper)(f:Fr)(l:Lo)(n:Nat)(K:Fr→Lo→Nat→Option a):Option a:=iH n (AP o) f l λ_ b c=>K b c (n+1)
def zo{c:Type}(cf:fq)(d:List Oper)(o:Oper)(g:FuncId)(a:V)(f:Fr)(l:Lo)(n:Nat)(K:Fr→Lo→Nat→Option c):Option c:=match o.guard with
 |none=>lL cf o g a f l n K
 |some (j,w)=>match d[j]? with
  |some q=>match q.dst with
   |some t=>match eC f t with
    |some ⟨_,s,.data .bool b⟩=>match w with
     |true=>dV b (lL cf o g a (⟨t,s,.data .bool true⟩ :: f) l n K) (GM o (⟨t,s,.data .bool false⟩ :: f) l n K)
     |false=>dV b (GM o (⟨t,s,.data .bool true⟩ :: f) l n K) (lL cf o g a (⟨t,s,.data .bool false⟩ :: f) l n K)
    |some ⟨_,_,.undef⟩=>GM o f l n K
    |_=>none
   |none=>none
  |none=>none
def ll{b:Type}(C:Cf)(cf:fq)(a:List Oper):List Oper→Fr→Lo→Nat→(Fr→Lo→Nat→Option b)→Option b
 |[],f,l,n,K=>K f l n
 |o :: r,f,l,n,K=>match Ih C f o with
  |none=>iH n (wB C a n o) f l λ_ f l=>ll C cf a r f l (n+1) K
  |some (g,c)=>zo cf a o g c f l n λf l n=>ll C cf a r f l n K
def pn{b:Type}(C:Cf)(a:List Oper):List Oper→Fr→Lo→Nat→(Fr→Lo→Nat→List Fp→Option b)→Option b
 |[],f,l,n,K=>K f l n []
 |o :: r,f,l,n,K=>ki n (wB C a n o) f l Fp.no λ_ f l p=>pn C a r f l (n+1) λf l n c=>K f l n (p :: c)
def Pn(o:Oper):Bool:=match o.op,o.guard with
 |.call c,none=>match c.callee with
  |.value (.tmp _)=>true
  |_=>false
 |_,_=>false
def nJ(m:Nat):Nat→Bool
 |0=>true
 |k+1=>match Nat.testBit m k with
  |true=>nJ m k
  |false=>false
def Gi(a:List Oper):Option Oper:=match a.getLast? with
 |none=>none
 |some o=>match Pn o with
  |false=>none
  |true=>match nJ (kj (gv a.dropLast []) o.after.toList 0) a.dropLast.length with
   |true=>some o
   |false=>none
def F3(e:List Nat)(a:List Oper):Option (Oper×Oper):=match a.getLast?,a.dropLast.getLast? with
 |some c,some b=>match b.dst,b.guard,c.guard with
  |some d,none,none=>match lY e (d+700000),kJ 0 a.dropLast,(List.range a.dropLast.length).all λj=>lG a.toArray a.dropLast.length j,a.dropLast.all λo=>o.guard.isNone,nJ (kj (gv a.dropLast.dropLast []) b.after.toList 0) a.dropLast.dropLast.length with
   |true,true,true,true,true=>some (b,c)
   |_,_,_,_,_=>none
  |_,_,_=>none
 |_,_=>none
def Ci(K:Nat):List Oper→Bool
 |[]=>true
 |o :: r=>match o.dst with
  |some d=>match Nat.blt d K with
   |true=>Ci K r
   |false=>false
  |none=>Ci K r
def J6(f:Fr)(l:Lo)(P:Program):ResultVar→Option V
 |.tmp t=>match eC f t with
  |some e=>some e.x
  |none=>none
 |.cell x t=>match eC f x with
  |some ⟨_,_,.ptr u 0⟩=>match eC l u with
   |some ⟨_,_,.box _ c⟩=>match kW P t with
    |some q=>f8 FU c 0 q.1 q.2
    |none=>none
   |_=>none
  |_=>none
def GT(f:Fr)(l:Lo)(P:Program):List ResultVar→Option V
 |[]=>some .nl
 |r :: a=>match J6 f l P r,GT f l P a with
  |some (.tup _),_=>none
  |some v,some c=>some (.cons v c)
  |_,_=>none
def jr(C:Cf)(cf:fq)(h:List ResultVar)(b N:Nat):Code→(α:Type)→Go α
  |.skip,_,_,f,l,n,K=>K.norm f l n
  |.label _,_,_,f,l,n,K=>K.norm f l n
  | .region _ d k,_,e,f,l,n,K=>A5 b e f l n K λ_ _ f l n K=>match k,Ci N d.toList with
    |false,true=>ll C cf d.toList d.toList f l n K.norm
    | true,true=>match C.P.follows .mixedOrders,kJ 0 d.toList with
      |true,true=>match F3 C.mats d.toList with
       | some (m,p)=>pn C d.toList.dropLast d.toList.dropLast.dropLast f l n λf l n j=>match mc [] (gv d.toList.dropLast.dropLast []) j with
          |true=>ll C cf d.toList.dropLast [m] f l n λf l n=>ll C cf d.toList [p] f l n K.norm
          |false=>none
       |none=>match Gi d.toList with
        | none=>pn C d.toList d.toList f l n λf l n j=>match mc [] (gv d.toList []) j with
          |true=>K.norm f l n
          |false=>none
        | some o=>pn C d.toList d.toList.dropLast f l n λf l n j=>match mc [] (gv d.toList.dropLast []) j with
          |true=>ll C cf d.toList [o] f l n K.norm
          |false=>none
      |_,_=>none
    |_,false=>none
  |.seq x y,_,e,f,l,n,K=>A5 b e f l n K λg a f l n K=>jr C cf h b N x g a.fst f l n { K with norm:=λf l n=>jr C cf h b N y g a.snd f l n K }
  | .cond c x y,_,e,f,l,n,K=>A5 b e f l n K λg a f l n K=>match c with
    | .tmp t=>match eC f t with
      |some ⟨_,s,.data .bool q⟩=>dV q (jr C cf h b N x g a.fst (⟨t,s,.data .bool true⟩ :: f) l n K) (jr C cf h b N y g a.snd (⟨t,s,.data .bool false⟩ :: f) l n K)
      |_=>none
    |.const (.bool true)=>jr C cf h b N x g a.fst f l n K
    |.const (.bool false)=>jr C cf h b N y g a.snd f l n K
    |_=>none
  | .block id x,_,e,f,l,n,K=>A5 b e f l n K λg a f l n K=>jr C cf h b N x g a.fst f l n { K with exit:=λi=>match Nat.beq i id with
      |true=>K.norm
      |false=>K.exit i }
  |.loop x,_,e,f,l,n,K=>nZ b e f l n K λg a f l n K=>jr C cf h b N x g a.fst f l n K
  |.scope x,_,e,f,l,n,K=>jr C cf h b N x _ e.fst f l n K
  |.exit i,_,_,f,l,n,K=>K.exit i f l n
  | .ret,_,_,f,l,n,K=>match GT f l C.P h with
    |some c=>K.ret c l n
    |none=>none
  |_,_,_,_,_,_,_=>none
def rT{a:Type}(b:Func)(K:V→Lo→Nat→Option a)(_:Fr)(l:Lo)(n:Nat):Option a:=match b.results.toList with
 |[]=>K .nl l n
 |_=>none
abbrev g9:=List (FuncId×Func×eV)
def Am:eV→Fr→eV
 |.sel i a b,f=>match eC f i with
  |some ⟨_,_,.row _ _ _ _ _ _⟩=>Am a f
  |_=>Am b f
 |a,_=>a
def Ed(n:Nat):Lo→Bool
 |[]=>true
 |e :: r=>match e.x with
  |.box _ _=>match Nat.blt e.st n with
   |true=>Ed n r
   |false=>false
  |_=>Ed n r
def nN{c:Type}(a:fk)(d:V)(l:Lo)(n:Nat)(K:V→Lo→Nat→Option c):Option c:=match d with
 |.cons (.ptr u 0) f=>iH n (pY a.args f λx=>mI 0 (.box a.ty a.c) u λz=>.bind (a.F z x) λr=>.done r) [] l λr _ b=>match Ed n b with
  |true=>match fN 0 (.box a.ty a.c) r.1 u (n+1) with
   |(e,m)=>K (vn a.res r.2) (e++b) m
  |false=>none
 |_=>none
def vg(C:Cf)(e:g9):Nat→fq
 |0,_,_,_,_,_,_=>none
 |d+1,i,g,b,l,n,K=>match fV C.boxs g with
  |some h=>nN h b l n K
  |none=>match fV e g with
   |some (a,f)=>match a.body,Nat.ble (nX b) a.ntmps with
    |some c,true=>jr C (vg C e d) a.results.toList n a.ntmps c i (Am f (jt n 0 b)) (jt n 0 b) l (n+1) ⟨rT a K,λ_ _ _ _=>none,K⟩
    |_,_=>none
   |none=>none
def kT:(ts:List T)→ZF ts→V
 |[],_=>.nl
 |[t],x=>.cons (.data t x) .nl
 |t :: u :: r,x=>.cons (.data t x.1) (kT (u :: r) x.2)
def DP(C:Cf)(f:g9)(a:Func)(e:eV)(b d:List T)(x:ZF b):Option (ZF d):=match a.body with
 |some c=>jr C (vg C f 20) a.results.toList 0 a.ntmps c _ e (jt 0 0 (kT b x)) [] 1 ⟨λ_ _ _=>none,λ_ _ _ _=>none,λc l n=>iH n (pY d c λy=>.done y) [] l λy _ _=>some y⟩
 |none=>none
def w5{e:Type}(A:ee e)(T:TypeId)(sz:Nat)(l:List e)(w:World)(r:Value)(d:Zb)(f:World):Prop :=
 ∃ ob n a c,r= .slice (eF ob) n a∧(dY.own ob T sz n a c).holds f∧(∀b,ob=some b→w.heap.size≤b∧d b=none)∧A.rels d c l∧n=l.length
def mS(P:Program)(f:FuncId)(c:Array Value)(w:World)(v:Zb)(R:Value→Zb→World→Prop):Prop :=
 Calls P f c w λe a=>∃r b,e= .returned r∧fD w a∧eL w v a b∧R r b a
theorem Ch{K:Nat}{f:FuncId}{b:Func}{i:Code}{args:List Value}{R:Value→Zb→World→Prop}(p:fc c g)(m:o.funcs[f]?= some b)(l:b.body=some i)(k:b.ntmps=K)(n:args.length≤K)(h:∀a,St K g c (kS 0 args) [] c a g→i.wp o (bodyPost o b λe d=>∃r j,e= .returned r∧fD g d∧eL g c d j∧R r j d) a g):mS o f args.toArray g c R :=
 calls_of_wp m l (by subst k;exact h _ (St.enter p args n))
theorem Bk{P:Program}{v:Zb}{A:ee p}{k:Func}(h:St f L c z d v m g){i n cap sz:Nat}{ob:Option Nat}{T:TypeId}{cs:List Value}{l:List p}(w:d[i]?= some (.own ob T sz n cap cs))(y:(results k m.tmps).run P g= .ok (.slice (eF ob) n cap) g)(s:A.rels v cs l)(x:n=l.length):
  bodyPost P k (λe j=>∃r o,e= .returned r∧fD L j∧eL L c j o∧w5 A T sz l L r o j) .ret m g:=by
 obtain⟨u,t⟩:=h.loc _ (mG w);refine⟨h.dfr,_,y,_,v,rfl,h.ext.ext,h.vst.ext,ob,n,cap,cs,rfl,u,λb e=>?_,s,x⟩;obtain⟨a,q⟩:=t b e;rcases a with a |a
 ·exact⟨a,q⟩
 ·exact absurd a (by simp)
inductive Gh where
 |box (b:Nat)
 |own (ob:Option Nat) (cap:Nat)
 |mat (ob:Option Nat) (cap:Nat) (rows:List (Option Nat×Nat))
variable {a v:Nat→Gh}
def V.val(x:V)(a:List Value):Value:=match x.isAgg with
 |true=>.agg a.toArray
 |false=>a.headD Go.undef
def Hu(c:Nat→Gh)(u:Nat):LV→Value→Prop
 |.own _ _ d _,y=>∃ob a,c u= .own ob a∧y= .slice (eF ob) d.length a
 |.mat _ _ _ m _,y=>∃ob a b,c u= .mat ob a b∧y= .slice (eF ob) m.length a
 |.mid _ _ _ m _ _,y=>∃ob a b,c u= .mat ob a b∧y= .slice (eF ob) m.length a
 |.box _ _,_=>False
def FC(c:Nat→Gh)(u a:Nat):LV→Value→Prop
 |.box _ _,y=>∃b,c u= .box b∧y= .pointer (some ⟨b,a,none⟩)
 |.own _ _ _ _,_=>True
 |_,_=>False
def tc(e:Nat→Gh)(u i g:Nat)(t:T)(x:t.den)(a h:Nat):LV→Value→Prop
 |.own _ s c _,y=>∃b f,e u= .own (some b) f∧y= .pointer (some ⟨b,0+i*s.n+a,none⟩)∧i<c.length∧(h=g→∃d,mJ s t c=some d∧d[i]?= some x)
 |.box _ _,y=>∃b,e u= .box b∧y= .pointer (some ⟨b,0+i*t.n+a,none⟩)
 |_,_=>False
def tf(g:Nat→Gh)(u i e:Nat)(t:T)(r:List t.den)(f:Nat):LV→Value→Prop
 |.mat _ _ s m _,y=>∃b c d,g u= .mat (some b) c d∧y= .pointer (some ⟨b,0+i*1,none⟩)∧i<m.length∧(f=e→∃a,jz s t m=some a∧a[i]?= some r)
 |.mid _ _ s m _ _,y=>∃b c d,g u= .mat (some b) c d∧y= .pointer (some ⟨b,0+i*1,none⟩)∧i<m.length∧(f=e→∃a,jz s t m=some a∧a[i]?= some r)
 |.own _ _ _ _,_=>True
 |_,_=>False
def Hk(l:Nat→Gh)(u i j h:Nat)(t:T)(r:List t.den)(k:Nat):LV→Value→Prop
 |.mat _ _ s m g,y=>g=j→∃ob f e c a,l u= .mat ob f e∧e[i]?= some (c,a)∧y= .slice (eF c) r.length a∧(∃d,m[i]?= some d∧d.length=r.length)∧(k=h→∃b,jz s t m=some b∧b[i]?= some r)
 |.mid _ _ s m g _,y=>g=j→∃ob f e c a,l u= .mat ob f e∧e[i]?= some (c,a)∧y= .slice (eF c) r.length a∧(∃d,m[i]?= some d∧d.length=r.length)∧(k=h→∃b,jz s t m=some b∧b[i]?= some r)
 |.own _ _ _ _,_=>True
 |_,_=>False
def Hx(o:Nat→Gh)(u i j k h:Nat)(t:T)(r:List t.den)(x:t.den)(l n:Nat):LV→Value→Prop
 |.mat _ _ s m g,y=>g=k→∃ob e d a f,o u= .mat ob e d∧d[i]?= some (some a,f)∧y= .pointer (some ⟨a,0+j*s.n+l,none⟩)∧(∃c,m[i]?= some c∧c.length=r.length)∧j<r.length∧(n=h→(∃b,jz s t m=some b∧b[i]?= some r)∧r[j]?= some x)
 |.mid _ _ s m g _,y=>g=k→∃ob e d a f,o u= .mat ob e d∧d[i]?= some (some a,f)∧y= .pointer (some ⟨a,0+j*s.n+l,none⟩)∧(∃c,m[i]?= some c∧c.length=r.length)∧j<r.length∧(n=h→(∃b,jz s t m=some b∧b[i]?= some r)∧r[j]?= some x)
 |.own _ _ _ _,_=>True
 |_,_=>False
def RR(v:Zb)(g:Nat→Gh)(l:Lo):Bool→V→List Value→Prop
 |false,.data t x,d=>t.rep.rel v d x
 |false,.nilS,d=>d=[.slice none 0 0]
 |false,.own u,d=>∃y,d=[y]∧plain y=true∧∀e,eC l u=some e→Hu g u e.x y
 |false,.row u i m h t r,d=>∃y,d=[y]∧plain y=true∧∀e,eC l u=some e→Hk g u i m h t r e.st e.x y
 |false,.ptr u k,d=>∃y,d=[y]∧plain y=true∧∀e,eC l u=some e→FC g u k e.x y
 |false,.el u i h t x k,d=>∃y,d=[y]∧plain y=true∧(∃c,t.rep.rel v c x)∧∀e,eC l u=some e→tc g u i h t x k e.st e.x y
 |false,.rp u i _ h t r,d=>∃y,d=[y]∧plain y=true∧∀e,eC l u=some e→tf g u i h t r e.st e.x y
 |false,.rel u i j m h t r x k,d=>∃y,d=[y]∧plain y=true∧∀e,eC l u=some e→Hx g u i j m h t r x k e.st e.x y
 |false,.vp t x k,d=>∃b o c,At v b o c∧t.rep.rel v c x∧d=[.pointer (some ⟨b,o+k,none⟩)]
 |false,.nl,d=>d=[]
 |false,.cons a b,d=>∃n p,d=n++p∧RR v g l false a n∧RR v g l false b p
 |false,.agg c,d=>RR v g l false c d
 |false,.tup _,_=>False
 |false,.fn f c,d=>∃s,RR v g l true c s∧d=[.func (.func f) #[] s.toArray]
 |false,.ifc z c,d=>∃q,RR v g l false c q∧d=[.iface z (c.val q)]
 |false,.undef,d=>d=[undef]
 |true,.nl,d=>d=[]
 |true,.cons a b,d=>∃c w,d=a.val c :: w∧RR v g l false a c∧RR v g l true b w
 |true,_,_=>False
def RV(v:Zb)(d:Nat→Gh)(l:Lo)(x:V)(y:Value):Prop:=match x with
 |.tup c=>∃b,RR v d l true c b∧y= .tuple b.toArray
 |x=>∃a,RR v d l false x a∧y=x.val a
def V.ok(U:Nat→Prop):V→Prop
 |.own u=>U u
 |.row u _ e d _ _=>U u∧U e∧U d
 |.ptr u _=>U u
 |.el u _ d _ _ _=>U u∧U d
 |.rp u _ e d _ _=>U u∧U e∧U d
 |.rel u _ _ e d _ _ _ _=>U u∧U e∧U d
 |.cons a b=>a.ok U∧b.ok U
 |.agg c=>c.ok U
 |.tup c=>c.ok U
 |.fn _ c=>c.ok U
 |.ifc _ c=>c.ok U
 |_=>True
theorem V.ok.mono{U':Nat→Prop}(h:∀n,b n→U' n):∀{x:V},x.ok b→x.ok U'
 |.own _,k=>h _ k
 |.row _ _ _ _ _ _,k=>⟨h _ k.1,h _ k.2.1,h _ k.2.2⟩
 |.ptr _ _,k=>h _ k
 |.el _ _ _ _ _ _,k=>⟨h _ k.1,h _ k.2⟩
 |.rp _ _ _ _ _ _,k=>⟨h _ k.1,h _ k.2.1,h _ k.2.2⟩
 |.rel _ _ _ _ _ _ _ _ _,k=>⟨h _ k.1,h _ k.2.1,h _ k.2.2⟩
 |.cons _ _,k=>⟨V.ok.mono h k.1,V.ok.mono h k.2⟩
 |.agg c,k=>V.ok.mono (x:=c) h k
 |.tup c,k=>V.ok.mono (x:=c) h k
 |.fn _ c,k=>V.ok.mono (x:=c) h k
 |.ifc _ c,k=>V.ok.mono (x:=c) h k
 |.data _ _,_=>trivial
 |.nilS,_=>trivial
 |.vp _ _ _,_=>trivial
 |.nl,_=>trivial
 |.undef,_=>trivial
def lV(U:Nat→Prop)(j k:Nat→Gh)(u:Nat)(i g:Nat)(t:T)(m:List (List t.den))(h:Nat)(b:T)(a:List (List b.den))(d:Nat):Prop:=b=t∧a.length=m.length∧(∃ob c e f,j u= .mat ob c e∧k u= .mat ob c f∧(U d→d=h∧f=e∧a.map List.length=m.map List.length))∧(U g→g=i∧(⟨b,a⟩:(t:T)×List (List t.den))=⟨t,m⟩)
def CE(U:Nat→Prop)(b c:Nat→Gh)(u:Nat)(j g:Nat)(L n:LV):Prop:=match L,n with
 |.box _ _,.box _ _=>c u=b u
 |.own _ t l _,.own _ a h _=>c u=b u∧a=t∧h.length=l.length∧(U g→g=j∧(⟨a,h⟩:(t:T)×List t.den)=⟨t,l⟩)
 |.mat _ _ t m d,.mat _ _ a f e=>lV U b c u j g t m d a f e
 |.mat _ _ t m d,.mid _ _ a f e _=>lV U b c u j g t m d a f e
 |.mid _ _ t m d _,.mat _ _ a f e=>lV U b c u j g t m d a f e
 |.mid _ _ t m d _,.mid _ _ a f e _=>lV U b c u j g t m d a f e
 |.mid _ _ _ m _ _,.own _ _ h _=>∃ob i k,b u= .mat ob i k∧c u= .own ob i∧h.length=m.length
 |.mat _ _ _ m _,.own _ _ h _=>∃ob i k,b u= .mat ob i k∧c u= .own ob i∧h.length=m.length
 |_,_=>False
structure Le(U:Nat→Prop)(v:Zb)(γ:Nat→Gh)(l:Lo)(v':Zb)(γ':Nat→Gh)(l':Lo):Prop where
 v:v.le v'
 l:∀u e',U u→eC l' u=some e'→∃e,eC l u=some e∧CE U γ γ' u e.st e'.st e.x e'.x
theorem Oc{m:List (List p)}{b:List (List π)}(h:b.map List.length=m.map List.length)(d:m[f]?= some δ):∃a,b[f]?= some a∧a.length=δ.length:=by
 have:=congrArg (·[f]?) h;simp only[List.getElem?_map,d,Option.map_some]at this
 cases c:b[f]? with
 |none=>rw[c]at this;cases this
 |some a=>rw[c]at this;exact⟨a,rfl,Option.some.inj this⟩
theorem Z'(h:Hu a f U u)(c:CE b a v f q I U η):Hu v f η u:=by
 have z:∀{t j:T} {m:List (List t.den)} {o:List (List j.den)} {r s:Nat},(∃ob d e,a f= .mat ob d e∧u= .slice (eF ob) m.length d)→lV b a v f q I t m r j o s→∃ob d e,v f= .mat ob d e∧u= .slice (eF ob) o.length d:=by
  rintro t j m o r s ⟨B,x,C,i,y⟩ ⟨l,n,⟨ob,d,e,w,k,g,_⟩,_⟩;rw[k]at i;cases i;exact⟨_,_,w,g,by rw[y,n]⟩
 have A:∀{t:T} {m:List (List t.den)} {j:T} {p:List j.den},(∃ob d e,a f= .mat ob d e∧u= .slice (eF ob) m.length d)→(∃ob d e,a f= .mat ob d e∧v f= .own ob d∧p.length=m.length)→∃ob d,v f= .own ob d∧u= .slice (eF ob) p.length d:=by
  rintro t m j p ⟨B,x,w,g,i⟩ ⟨ob,d,e,l,n,k⟩;rw[l]at g;cases g;exact⟨_,_,n,by rw[i,k]⟩
 cases U <;> cases η <;> simp only[CE]at c <;> simp only[Hu]at h ⊢
 ·obtain⟨l,n,k,_⟩:=c;obtain⟨ob,d,g,i⟩:=h;exact⟨ob,d,by rw[l,g],by rw[i,k]⟩
 all_goals first |exact z h c |exact A h c
theorem ZfE(h:FC a f q U u)(c:CE b a v f I Q U η):FC v f q η u:=by
 cases U <;> cases η <;> simp only[CE]at c <;> simp only[FC]at h ⊢
 ·obtain⟨d,e,g⟩:=h;exact⟨d,by rw[c,e],g⟩
theorem VY(r:b I)(h:tc a f q I t E Q W U u)(c:CE b a v f W α U η):tc v f q I t E Q α η u:=by
 cases U <;> cases η <;> simp only[CE]at c <;> simp only[tc]at h ⊢
 ·obtain⟨d,g,i⟩:=h;exact⟨d,by rw[c,g],i⟩
 rename_i B z D s C A F w;obtain⟨m,n,x,o⟩:=c;subst n;obtain⟨d,j,g,i,y,p⟩:=h;refine⟨d,j,by rw[m,g],i,by omega,λe=>?_⟩;subst e;obtain⟨k,l⟩:=o r
 cases l
 exact p k.symm
theorem ZgA(E:b I)(h:tf a f q I t w Q U u)(c:CE b a v f Q W U η):tf v f q I t w W η u:=by
 have F:∀{k l:T} {m:List (List k.den)} {g:List (List l.den)} {o p:Nat},(∃d i j,a f= .mat (some d) i j∧u= .pointer (some ⟨d,0+q*1,none⟩)∧q<m.length∧(Q=I→∃g,jz k t m=some g∧g[q]?= some w))→lV b a v f Q W k m o l g p→∃d i j,v f= .mat (some d) i j∧u= .pointer (some ⟨d,0+q*1,none⟩)∧q<g.length∧(W=I→∃r,jz l t g=some r∧r[q]?= some w):=by
  intro k l m g o p h c;obtain⟨A,J,⟨ob,i,j,G,y,z,_⟩,B⟩:=c;subst A;obtain⟨d,H,L,n,C,K,D⟩:=h;rw[y]at n;cases n;refine⟨d,i,G,z,C,by omega,λe=>?_⟩;subst e;obtain⟨s,x⟩:=B E
  cases x
  exact D s.symm
 cases U <;> cases η <;> simp only[CE]at c <;> simp only[tf]at h ⊢
 all_goals exact F h c
theorem XQ(J:b I)(K:b Q)(h:Hk a f q I Q t w W U u)(c:CE b a v f W α U η):Hk v f q I Q t w α η u:=by
 have P:∀{o p:T} {m:List (List o.den)} {n:List (List p.den)} {r s:Nat},(r=I→∃ob k j g d,a f= .mat ob k j∧j[q]?= some (g,d)∧u= .slice (eF g) w.length d∧(∃i,m[q]?= some i∧i.length=w.length)∧(W=Q→∃l,jz o t m=some l∧l[q]?= some w))→lV b a v f W α o m r p n s→(s=I→∃ob k j g d,v f= .mat ob k j∧j[q]?= some (g,d)∧u= .slice (eF g) w.length d∧(∃i,n[q]?= some i∧i.length=w.length)∧(α=Q→∃l,jz p t n=some l∧l[q]?= some w)):=by
  intro o p m n r s h c;obtain⟨G,Y,⟨ob,k,j,a1,D,E,F⟩,H⟩:=c;subst G;intro e;subst e;obtain⟨y,z,A⟩:=F J;obtain⟨a0,X,a2,g,d,x,L,M,⟨i,N,Z⟩,O⟩:=h y.symm;rw[D]at x;cases x;subst z;obtain⟨S,R,q2⟩:=Oc A N;refine⟨ob,k,_,g,d,E,L,M,⟨S,R,by omega⟩,λe=>?_⟩;subst e;obtain⟨B,C⟩:=H K
  cases C
  exact O B.symm
 cases U <;> cases η <;> simp only[CE]at c <;> simp only[Hk]at h ⊢
 all_goals exact P h c
theorem ZgD{r:Nat}(L:b Q)(M:b W)(h:Hx a f q I Q W t w E α ξ U u)(c:CE b a v f ξ r U η):Hx v f q I Q W t w E α r η u:=by
 have X:∀{n o:T} {m:List (List n.den)} {p:List (List o.den)} {s x:Nat},(s=Q→∃ob j i d k,a f= .mat ob j i∧i[q]?= some (some d,k)∧u= .pointer (some ⟨d,0+I*n.n+α,none⟩)∧(∃g,m[q]?= some g∧g.length=w.length)∧I<w.length∧(ξ=W→(∃l,jz n t m=some l∧l[q]?= some w)∧w[I]?= some E))→lV b a v f ξ r n m s o p x→(x=Q→∃ob j i d k,v f= .mat ob j i∧i[q]?= some (some d,k)∧u= .pointer (some ⟨d,0+I*o.n+α,none⟩)∧(∃g,p[q]?= some g∧g.length=w.length)∧I<w.length∧(r=W→(∃l,jz o t p=some l∧l[q]?= some w)∧w[I]?= some E)):=by
  intro n o m p s x h c;obtain⟨J,h3,⟨ob,j,i,a2,F,G,H⟩,K⟩:=c;subst J;intro e;subst e;obtain⟨z,A,B⟩:=H L;obtain⟨a1,a0,a3,d,k,y,N,O,⟨g,P,k5⟩,R,S⟩:=h z.symm;rw[F]at y;cases y;subst A;obtain⟨Z,Y,q2⟩:=Oc B P;refine⟨ob,j,_,d,k,G,N,O,⟨Z,Y,by omega⟩,R,λe=>?_⟩;subst e;obtain⟨C,D⟩:=K M
  cases D
  exact S C.symm
 cases U <;> cases η <;> simp only[CE]at c <;> simp only[Hx]at h ⊢
 all_goals exact X h c
theorem jl(h:Le b c a k n v μ):∀{x:V} {m:Bool} {q:List Value},x.ok b→RR c a k m x q→RR n v μ m x q:=by
 intro x
 induction x with
 |data t x=>intro m q g d;cases m <;> first |exact ee.mono _ h.v d |exact d
 |nilS=>intro m q g d;cases m <;> first |exact d |exact d
 |own u=>
  intro m q g d;cases m
  ·obtain⟨y,l,hp,p⟩:=d;refine⟨y,l,hp,λw A=>?_⟩;obtain⟨e,s,z⟩:=h.l u w g A;exact Z' (p e s) z
  ·exact d
 |row u i H D t r=>
  intro m q g d;cases m
  ·obtain⟨y,l,hp,p⟩:=d;refine⟨y,l,hp,λw A=>?_⟩;obtain⟨e,s,z⟩:=h.l u w g.1 A;exact XQ g.2.1 g.2.2 (p e s) z
  ·exact d
 |ptr u E=>
  intro m q g d;cases m
  ·obtain⟨y,l,hp,p⟩:=d;refine⟨y,l,hp,λw A=>?_⟩;obtain⟨e,s,z⟩:=h.l u w g A;exact ZfE (p e s) z
  ·exact d
 |el u i D t x E=>
  intro m q g d;cases m
  ·obtain⟨y,l,hp,⟨K,N⟩,p⟩:=d;refine⟨y,l,hp,⟨K,ee.mono _ h.v N⟩,λw A=>?_⟩;obtain⟨e,s,z⟩:=h.l u w g.1 A;exact VY g.2 (p e s) z
  ·exact d
 |rp u i H D t r=>
  intro m q g d;cases m
  ·obtain⟨y,l,hp,p⟩:=d;refine⟨y,l,hp,λw A=>?_⟩;obtain⟨e,s,z⟩:=h.l u w g.1 A;exact ZgA g.2.2 (p e s) z
  ·exact d
 |rel u i j H D t r x E=>
  intro m q g d;cases m
  ·obtain⟨y,l,hp,p⟩:=d;refine⟨y,l,hp,λw A=>?_⟩;obtain⟨e,s,z⟩:=h.l u w g.1 A;exact ZgD g.2.1 g.2.2 (p e s) z
  ·exact d
 |vp t x E=>
  intro m q g d;cases m
  ·obtain⟨G,o,B,l,p,s⟩:=d;exact⟨G,o,B,At.mono h.v l,ee.mono _ h.v p,s⟩
  ·exact d
 |nl=>intro m q g d;cases m <;> first |exact d |exact d
 |cons P G I J=>
  intro m q g d;cases m
  ·obtain⟨L,M,l,p,s⟩:=d;exact⟨L,M,l,I g.1 p,J g.2 s⟩
  ·obtain⟨B,O,l,p,s⟩:=d;exact⟨B,O,l,I g.1 p,J g.2 s⟩
 |agg B C=>intro m q g d;cases m <;> first |exact C (m:=false) g d |exact d
 |tup B C=>intro m q g d;cases m <;> first |exact d |exact d
 |fn f B C=>
  intro m q g d;cases m
  ·obtain⟨F,l,p⟩:=d;exact⟨F,C (m:=true) g l,p⟩
  ·exact d
 |ifc Q B C=>
  intro m q g d;cases m
  ·obtain⟨F,l,p⟩:=d;exact⟨F,C (m:=false) g l,p⟩
  ·exact d
 |undef=>intro m q g d;cases m <;> first |exact d |exact d
theorem jD(h:Le b c a k n v μ)(i:x.ok b)(d:RV c a k x u):RV n v μ x u:=by
 cases x <;> simp only[RV]at d ⊢ <;> obtain⟨e,f,g⟩:=d <;> exact⟨e,jl h i f,g⟩
def F2{c d:Type}(R:c→d→Prop):List c→List d→Prop
 |[],[]=>True
 |a :: l,b :: m=>R a b∧F2 R l m
 |_,_=>False
theorem F2.imp{R c:p→π→Prop}:∀{l:List p} {m:List π},(∀a ∈ l,∀b,R a b→c a b)→F2 R l m→F2 c l m
 |[],[],_,_=>trivial
 |a :: l,b :: m,h,k=>⟨h a (by simp) b k.1,F2.imp (λx d y=>h x (by simp[d]) y) k.2⟩
 |[],_ :: _,_,k=>k.elim
 |_ :: _,[],_,k=>k.elim
def Zq{c:Type}:List (Option Nat×Nat)→List (List c)→List Value
 |p :: a,r :: b=>.slice (eF p.1) r.length p.2 :: Zq a b
 |_,_=>[]
def gk(v:Zb)(c:TypeId)(t:T):List (Option Nat×Nat)→List (List t.den)→List dY→Prop
 |[],[],es=>es=[]
 |p :: d,r :: e,es=>∃a b,t.rep.rels v a r∧es= .own p.1 c t.n r.length p.2 a :: b∧gk v c t d e b
 |_,_,_=>False
def IJ{t:T}(b:List (Option Nat×Nat))(m:List (List t.den))(e:List dY)(hs:List Value)(f:List dY):NJ→Prop
 |.hol i=>hs=Zq b m∧∃a c d,e=a++c :: d∧a.length=i∧f=a++d
 |.swp i j=>f=e∧i<m.length∧∃h,(Zq b m)[j]?= some h∧hs=(Zq b m).set i h
def gQ(v:Zb)(h:Nat→Gh)(l:Lo)(e:En LV)(es:List dY):Prop:=match e.x with
 |.box f c=>∃b g,h e.k= .box b∧RR v h l false c g∧g.all plain=true∧es=[.box b f g]
 |.own f t j false=>∃ob a g,h e.k= .own ob a∧t.rep.rels v g j∧es=[.own ob f t.n j.length a g]
 |.own _ t j true=>∃ob a,h e.k= .own ob a∧(Zy t.rep).rel v [.slice (eF ob) j.length a] j∧es=[]
 |.mat f k t m _=>∃ob a d i,h e.k= .mat ob a d∧gk v k t d m i∧es= .own ob f 1 m.length a (Zq d m) :: i
 |.mid f k t m _ s=>∃ob a d i hs n,h e.k= .mat ob a d∧gk v k t d m i∧IJ d m i hs n s∧es= .own ob f 1 m.length a hs :: n
def LV.ok(U X:Nat→Prop):LV→Prop
 |.box _ c=>c.ok U
 |.own _ _ _ _=>True
 |.mat _ _ _ _ a=>X a
 |.mid _ _ _ _ a _=>X a
theorem LV.ok.mono{U' X X':Nat→Prop}(h:∀n,b n→U' n)(a:∀n,X n→X' n)(k:U.ok b X):U.ok U' X':=by
 cases U
 ·exact V.ok.mono h k
 ·trivial
 ·exact a _ k
 ·exact a _ k
structure dZ(N:Nat)(G:V→Value→Prop)(w0:dW)(v0:Zb)(U X:Nat→Prop)(f:Fr)(l:Lo)(a:Act)(w:World)(γ:Nat→Gh)(v:Zb)(ℓ:List dY):Prop where
 st:St N w0 v0 [] ℓ v a w
 fr:∀t e,eC f t=some e→RV v γ l e.x (a.tmps.getD t undef)
 lr:∃E,F2 (gQ v γ l) l E∧ℓ.Perm E.flatten
 nd:(l.map En.k).Nodup
 uf:∀t e,eC f t=some e→e.x.ok U∧X e.st
 ul:∀e ∈ l,X e.k∧X e.st∧e.x.ok U X
 gh:∀x y,G x y→RV v γ l x y∧x.ok U
def fG(N:Nat)(G:V→Value→Prop)(c:dW)(b:Zb)(U:Nat→Prop)(f:Fr)(l:Lo)(a:Act)(w:World):Prop:=∃d v e,dZ N G c b U U f l a w d v e
theorem Zv:∀{l:List (En p)} {t:Nat} {e:En p},eC l t=some e→e ∈ l∧e.k=t
 |[],_,_,h=>by cases h
 |b :: r,t,e,h=>by
  simp only[eC]at h
  cases a:Nat.beq b.k t
  ·rw[a]at h;have:=Zv h;exact⟨by simp[this.1],this.2⟩
  ·rw[a]at h;cases h;exact⟨by simp,eH a⟩
theorem ZU{a:En p}:eC (a :: H) f=if a.k=f then some a else eC H f:=by
 simp only[eC]
 cases b:Nat.beq a.k f
 ·rw[iN (λe=>by rw[e]at b;simp at b)]
 ·rw[iP (eH b)]
theorem Fw{a:En p}:era (a :: H) f=if a.k=f then H else a :: era H f:=by
 simp only[era]
 cases b:Nat.beq a.k f
 ·rw[iN (λe=>by rw[e]at b;simp at b)]
 ·rw[iP (eH b)]
theorem C8:∀e ∈ era H f,e ∈ H:=by
 induction H with
 |nil=>intro e h;cases h
 |cons b r a=>
  intro e h;rw[Fw]at h;split at h
  ·simp[h]
  ·rcases List.mem_cons.1 h with h |h
   ·simp[h]
   ·simp[a e h]
theorem jQ{t:Nat}(h:(H.map En.k).Nodup):((era H t).map En.k).Nodup∧t ∉ (era H t).map En.k:=by
 induction H with
 |nil=>simp[era]
 |cons i r g=>
  simp only[List.map_cons,List.nodup_cons]at h;rw[Fw];split
  ·rename_i hp;subst hp;exact⟨h.2,h.1⟩
  ·rename_i hp;obtain⟨d,f⟩:=g h.2;refine⟨?_,?_⟩
   ·simp only[List.map_cons,List.nodup_cons];refine⟨λc=>h.1 ?_,d⟩;obtain⟨e,a,b⟩:=List.mem_map.1 c;exact List.mem_map.2 ⟨e,C8 e a,b⟩
   ·simp only[List.map_cons,List.mem_cons,not_or];exact⟨λe=>hp e.symm,f⟩
theorem DW(h:f ∉ H.map En.k):eC H f=none:=by
 cases a:eC H f with
 |none=>rfl
 |some e=>have:=Zv a;exact absurd (List.mem_map.2 ⟨e,this.1,this.2⟩) h
theorem B5(h:eC H f=none):f ∉ H.map En.k:=by
 induction H with
 |nil=>simp
 |cons b r a=>
  rw[ZU]at h;split at h
  ·cases h
  ·rename_i hp;simp only[List.map_cons,List.mem_cons,not_or];exact⟨λe=>hp e.symm,a h⟩
theorem kG(h:(H.map En.k).Nodup):eC (era H f) q=if f=q then none else eC H q:=by
 split
 ·rename_i e;subst e;exact DW (jQ h).2
 ·rename_i b
  induction H with
  |nil=>rfl
  |cons c r a=>
   simp only[List.map_cons,List.nodup_cons]at h;rw[Fw];split
   ·rename_i hp;rw[ZU,iN (by omega)]
   ·rw[ZU,ZU];split
    ·rfl
    ·exact a h.2
theorem xq:∀{l:Lo} {E:List (List dY)} {u:Nat} {e:En LV},F2 S l E→eC l u=some e→∃es b,S e es∧F2 S (era l u) b∧E.flatten.Perm (es++b.flatten)
 |[],_,_,_,_,h=>by cases h
 |p :: r,[],_,_,a,_=>a.elim
 |p :: r,es :: E,u,e,a,h=>by
  rw[ZU]at h
  rw[Fw]
  split at h
  ·rename_i hp;cases h;rw[iP hp];exact⟨es,E,a.1,a.2,List.Perm.refl _⟩
  ·rename_i hp
   rw[iN hp]
   obtain⟨c,b,d,f,g⟩:=xq a.2 h
   refine⟨c,es :: b,d,⟨a.1,f⟩,?_⟩
   simp only[List.flatten_cons]
   exact((List.Perm.append_left es g).trans (by rw[←fj,←fj];exact List.Perm.append_right _ List.perm_append_comm))
theorem St.perm(h:St f j c z d n m g)(p:d.Perm M):St f j c z M n m g :=
 ⟨h.size,h.dfr,h.fr,h.ext,h.vst,λe a=>h.loc e (p.mem_iff.2 a),(p.filterMap _).nodup_iff.1 h.nd⟩
theorem mn(h:c.le n):∀{a:List (Option Nat×Nat)} {m:List (List t.den)} {es:List dY},gk c l t a m es→gk n l t a m es
 |[],[],_,k=>k
 |_ :: _,_ :: _,_,⟨b,d,e,f,g⟩=>⟨b,d,ZQ h e,f,mn h g⟩
 |[],_ :: _,_,k=>k.elim
 |_ :: _,[],_,k=>k.elim
theorem xg:∀{a:List (Option Nat×Nat)} {m:List (List t.den)} {es:List dY},gk c l t a m es→a.length=m.length
 |[],[],_,_=>rfl
 |_ :: _,_ :: _,_,⟨_,_,_,_,b⟩=>by simp[xg b]
 |[],_ :: _,_,k=>k.elim
 |_ :: _,[],_,k=>k.elim
theorem CP(i:Le b c a k n v μ){es:List dY}(A:Z.x.ok b h)(j:v Z.k=a Z.k)(r:gQ c a k Z es):gQ n v μ Z es:=by
 obtain⟨E,F,x⟩:=Z
 cases x with
 |box u D=>
  obtain⟨w,l,d,e,f,p⟩:=r;exact⟨w,l,by rw[j];exact d,jl i A e,f,p⟩
 |own u t G z=>
  cases z with
  |false=>obtain⟨ob,g,l,d,e,f⟩:=r;exact⟨ob,g,l,by rw[j];exact d,ZQ i.v e,f⟩
  |true=>obtain⟨ob,g,d,e,f⟩:=r;exact⟨ob,g,by rw[j];exact d,ee.mono _ i.v e,f⟩
 |mat u C t m B=>
  obtain⟨ob,g,q,o,d,e,f⟩:=r;exact⟨ob,g,q,o,by rw[j];exact d,mn i.v e,f⟩
 |mid u C t m B s=>
  obtain⟨ob,g,q,o,hs,y,d,e,f,p⟩:=r;exact⟨ob,g,q,o,hs,y,by rw[j];exact d,mn i.v e,f,p⟩
theorem CY{U:Nat→Prop}{γ':Nat→Gh}{es:List dY}(r:gQ c a k Z es)(e:γ' Z.k=a Z.k):CE U a γ' Z.k Z.st Z.st Z.x Z.x:=by
 obtain⟨p,q,x⟩:=Z
 cases x with
 |box g l=>exact e
 |own g t u o=>exact⟨e,rfl,rfl,λ_=>⟨rfl,rfl⟩⟩
 |mat g j t m i=>
  obtain⟨ob,f,d,h,b,_⟩:=r;exact⟨rfl,rfl,⟨ob,f,d,d,b,by rw[e];exact b,λ_=>⟨rfl,rfl,rfl⟩⟩,λ_=>⟨rfl,rfl⟩⟩
 |mid g j t m i s=>
  obtain⟨ob,f,d,h,hs,n,b,_⟩:=r;exact⟨rfl,rfl,⟨ob,f,d,d,b,by rw[e];exact b,λ_=>⟨rfl,rfl,rfl⟩⟩,λ_=>⟨rfl,rfl⟩⟩
theorem vT:∀{l:Lo} {E:List (List dY)} {e:En LV},F2 S l E→e ∈ l→∃es,S e es
 |[],_,_,_,h=>by cases h
 |_ :: _,[],_,a,_=>a.elim
 |p :: r,es :: E,e,a,h=>by
  rcases List.mem_cons.1 h with rfl |h
  ·exact⟨es,a.1⟩
  ·exact vT a.2 h
theorem Le.refl{U:Nat→Prop}(h:F2 (gQ c a k) k N)(i:c.le n):Le U c a k n a k :=
 ⟨i,λu b _ d=>⟨b,d,by
  obtain⟨f,e⟩:=Zv d
  obtain⟨es,g⟩:=vT h f
  have:=CY (U:=U) g (rfl:a b.k=a b.k)
  rw[e]at this;exact this⟩⟩
theorem dZ.upd{N:Nat}(i:dZ N e j c b h r k m g a n d){s:List dY}{p:List (List dY)}(D:h I)(H:h q)(A:F2 (gQ n a k) (era k q) p)(G:St N j c [] M θ m L)(u:Le b n a k θ v (⟨q,I,U⟩ :: era k q))(o:∀w,w≠q→v w=a w)(C:gQ θ v (⟨q,I,U⟩ :: era k q) ⟨q,I,U⟩ s)(hp:M.Perm (s++p.flatten))(E:U.ok b h):dZ N e j c b h r (⟨q,I,U⟩ :: era k q) m L v θ M:=by
 obtain⟨J,z⟩:=jQ (t:=q) i.nd;refine⟨G,λt f l=>jD u (i.uf t f l).1 (i.fr t f l),⟨s :: p,⟨C,A.imp λf l es F=>?_⟩,hp⟩,?_,i.uf,λf l=>?_,λx y o=>⟨jD u (i.gh x y o).2 (i.gh x y o).1,(i.gh x y o).2⟩⟩
 ·refine CP u (i.ul f (C8 f l)).2.2 (o _ λB=>z ?_) F;exact List.mem_map.2 ⟨f,l,B⟩
 ·simp only[List.map_cons,List.nodup_cons];exact⟨z,J⟩
 ·rcases List.mem_cons.1 l with rfl |l
  ·exact⟨H,D,E⟩
  ·exact i.ul f (C8 f l)
theorem dZ.new{N:Nat}(l:dZ N e j c b h r k m g a n d){L':LV}{γ':Nat→Gh}{es':List dY}{u:List (List dY)}(H:h I)(P:h q)(F:¬b q)(J:eC k q=none)(A:F2 (gQ n a k) k u)(O:St N j c [] M θ m L)(Q:n.le θ)(o:∀s,s≠q→γ' s=a s)(G:gQ θ γ' (⟨q,I,L'⟩ :: k) ⟨q,I,L'⟩ es')(hp:M.Perm (es'++u.flatten))(K:L'.ok b h):dZ N e j c b h r (⟨q,I,L'⟩ :: k) m L γ' θ M:=by
 have C:∀f ∈ k,f.k≠q:=λf i p=>B5 J (List.mem_map.2 ⟨f,i,p⟩);have v:Le b n a k θ γ' (⟨q,I,L'⟩ :: k):=⟨Q,λs E p i=>by
  have D:q≠s:=λf=>F (f▸ p);rw[ZU,iN D]at i;refine⟨E,i,?_⟩;obtain⟨w,B⟩:=Zv i;obtain⟨es,z⟩:=vT A w;have:=CY (U:=b) (γ':=γ') z (o _ (by rw[B];exact λf=>D f.symm));rw[B]at this;exact this⟩
 refine⟨O,λt f i=>jD v (l.uf t f i).1 (l.fr t f i),⟨es' :: u,⟨G,A.imp λf i es z=>?_⟩,hp⟩,?_,l.uf,λf i=>?_,λx y o=>⟨jD v (l.gh x y o).2 (l.gh x y o).1,(l.gh x y o).2⟩⟩
 ·exact CP v (l.ul f i).2.2 (o _ (C f i)) z
 ·simp only[List.map_cons,List.nodup_cons];refine⟨λw=>?_,l.nd⟩;obtain⟨f,i,p⟩:=List.mem_map.1 w;exact C f i p
 ·rcases List.mem_cons.1 i with rfl |i
  ·exact⟨P,H,K⟩
  ·exact l.ul f i
theorem Le.era{N:Nat}(i:dZ N e j c b h r k m g a n d)(u:Nat):Le b n a k n a (era k u):=by
 obtain⟨E,o,_⟩:=i.lr;refine⟨Zb.le_refl _,λt l _ f=>?_⟩;rw[kG i.nd]at f;split at f
 ·cases f
 ·refine⟨l,f,?_⟩;obtain⟨q,p⟩:=Zv f;obtain⟨es,s⟩:=vT o q;have:=CY (U:=b) (γ':=a) s rfl;rw[p]at this;exact this
theorem dZ.del{N:Nat}(f:dZ N e j c b h r k m g a n d)(B:eC k q=some Z):∃es i,gQ n a k Z es∧F2 (gQ n a k) (era k q) i∧F2 (gQ n a (era k q)) (era k q) i∧d.Perm (es++i.flatten)∧dZ N e j c b h r (era k q) m g a n i.flatten:=by
 obtain⟨E,z,hp⟩:=f.lr;obtain⟨es,i,w,s,u⟩:=xq z B;have p:=Le.era f q;have v:F2 (gQ n a (era k q)) (era k q) i:=s.imp λZ l es A=>CP p (f.ul Z (C8 Z l)).2.2 rfl A;exact⟨es,i,w,s,v,hp.trans u,(f.st.perm (hp.trans u)).drop (List.sublist_append_right _ _),λt Z l=>jD p (f.uf t Z l).1 (f.fr t Z l),⟨i,v,List.Perm.refl _⟩,(jQ f.nd).1,f.uf,λZ l=>f.ul Z (C8 Z l),λx y o=>⟨jD p (f.gh x y o).2 (f.gh x y o).1,(f.gh x y o).2⟩⟩
theorem dZ.put{N:Nat}(i:dZ N e j c b h r k m g a n d){x:V}(v:q<N)(y:RV n a k x u)(z:x.ok b)(w:h I):dZ N e j c b h (⟨q,I,x⟩ :: r) k (m.put (some q) u) g a n d:=by
 have hs:=i.st.put u v;refine⟨⟨hs.size,hs.dfr,λt x l=>(by cases l),hs.ext,hs.vst,hs.loc,hs.nd⟩,λt l f=>?_,i.lr,i.nd,λt l f=>?_,i.ul,i.gh⟩
 ·rw[ZU]at f;split at f
  ·rename_i o
   cases f
   have p:q=t:=o;subst p;have:=hs.fr q u (v7 rfl);rw[this];exact y
  ·rename_i o;have:=i.fr t l f;have s:(m.put (some q) u).tmps.getD t undef=m.tmps.getD t undef:=by
    have p:¬q=t:=o;simp[Act.put,Array.getElem?_setIfInBounds_ne p]
   rw[s];exact this
 ·rw[ZU]at f;split at f
  ·cases f;exact⟨z,w⟩
  ·exact i.uf t l f
theorem dZ.mono{N:Nat}{l:Lo}{U' X':Nat→Prop}(f:dZ N e j c b h r l m g a n d)(q:∀k,b k→U' k)(p:∀k,h k→X' k):dZ N e j c U' X' r l m g a n d :=
 ⟨f.st,f.fr,f.lr,f.nd,λt i o=>⟨V.ok.mono q (f.uf t i o).1,p _ (f.uf t i o).2⟩,λi o=>⟨p _ (f.ul i o).1,p _ (f.ul i o).2.1,LV.ok.mono q p (f.ul i o).2.2⟩,λx y s=>⟨(f.gh x y s).1,V.ok.mono q (f.gh x y s).2⟩⟩
theorem zA:∀i,(Mi i).n=(T.leaf i).n
 |0 |1 |2 |3 |4 |5 |6 |7 |8 |_+9=>rfl
theorem Yi:∀i,(Mi i).agg=(T.leaf i).agg
 |0 |1 |2 |3 |4 |5 |6 |7 |8 |_+9=>rfl
theorem ZK:∀t:T,t.rep.n=t.n
 |.int _ |.bool |.str |.slice _ |.ptr _=>rfl
 |.one a=>ZK a
 |.pair a b=>by show a.rep.n+b.rep.n=a.n+b.n;rw[ZK a,ZK b]
 |.leaf i=>zA i
theorem Px:∀t:T,t.rep.agg=t.agg
 |.int _ |.bool |.str |.slice _ |.one _ |.pair _ _ |.ptr _=>rfl
 |.leaf i=>Yi i
theorem Cc(t:T)(x:t.den)(cs:List Value):(V.data t x).val cs=t.rep.val cs:=by
 unfold V.val ee.val;rw[Px];rfl
theorem o6:∀{x:V} {d:List Value},RR c a k false x d→d.length=x.size:=by
 intro x
 induction x with
 |data t x=>intro d h;exact(ee.len _ h).trans (ZK t)
 |nilS=>intro d h;rw[show d=_ from h];rfl
 |own u=>intro d h;obtain⟨y,rfl,_⟩:=h;rfl
 |row u i n l t r=>intro d h;obtain⟨y,rfl,_⟩:=h;rfl
 |ptr u m=>intro d h;obtain⟨y,rfl,_⟩:=h;rfl
 |el u i l t x m=>intro d h;obtain⟨y,rfl,_⟩:=h;rfl
 |rp u i n l t r=>intro d h;obtain⟨y,rfl,_⟩:=h;rfl
 |rel u i j n l t r x m=>intro d h;obtain⟨y,rfl,_⟩:=h;rfl
 |vp t x m=>intro d h;obtain⟨b,o,e,_,_,rfl⟩:=h;rfl
 |nl=>intro d h;rw[show d=_ from h];rfl
 |cons z b s v=>intro d h;obtain⟨A,B,rfl,p,q⟩:=h;rw[lA,s p,v q];rfl
 |agg e g=>intro d h;exact g h
 |tup e g=>intro d h;exact h.elim
 |fn f e g=>intro d h;obtain⟨w,_,rfl⟩:=h;rfl
 |ifc C e g=>intro d h;obtain⟨w,_,rfl⟩:=h;rfl
 |undef=>intro d h;rw[show d=_ from h];rfl
theorem Xo:∀{x:V} {d:List Value},x.plain=true→RR c a k false x d→d.all plain=true:=by
 intro x
 induction x with
 |data t x=>intro d _ h;exact ee.flat _ h
 |nilS=>intro d _ h;rw[show d=_ from h];rfl
 |own u=>intro d _ h;obtain⟨y,rfl,hp,_⟩:=h;simp[hp]
 |row u i p l t r=>intro d _ h;obtain⟨y,rfl,hp,_⟩:=h;simp[hp]
 |ptr u n=>intro d _ h;obtain⟨y,rfl,hp,_⟩:=h;simp[hp]
 |el u i l t x n=>intro d _ h;obtain⟨y,rfl,hp,_⟩:=h;simp[hp]
 |rp u i p l t r=>intro d _ h;obtain⟨y,rfl,hp,_⟩:=h;simp[hp]
 |rel u i j p l t r x n=>intro d _ h;obtain⟨y,rfl,hp,_⟩:=h;simp[hp]
 |vp t x n=>intro d _ h;obtain⟨b,o,e,_,_,rfl⟩:=h;rfl
 |nl=>intro d _ h;rw[show d=_ from h];rfl
 |cons q b w z=>
  intro d hp h;obtain⟨B,C,rfl,s,v⟩:=h;simp only[V.plain]at hp
  cases m:q.plain
  ·rw[m]at hp;cases hp
  ·rw[m]at hp;rw[List.all_append,w m s,z hp v];rfl
 |agg e g=>intro d hp h;exact g hp h
 |tup e g=>intro d _ h;exact h.elim
 |fn f e g=>intro d _ h;obtain⟨A,_,rfl⟩:=h;rfl
 |ifc D e g=>intro d _ h;obtain⟨A,_,rfl⟩:=h;rfl
 |undef=>intro d hp _;cases hp
theorem Jx{b:Bool}(h:rU Y b=true):Y=b:=by cases Y <;> cases b <;> first |rfl |cases h
theorem Bp(h:RR c a k false x s)(hs:x.size=1)(d:x.isAgg=false):s=[x.val s]:=by
 have b:=o6 h;rw[hs]at b;obtain⟨y,rfl⟩:=List.length_eq_one_iff.1 b;unfold V.val;rw[d];rfl
theorem Y9:∀{t:T} {x:t.den} {d:List Value},t.rep.rel c d x→RR c a k false (Dx t x) d∧(Dx t x).ok b:=by
 intro t
 induction t with
 |pair l m n f=>
  intro x d h;obtain⟨g,i,rfl,j,e⟩:=h;exact⟨⟨g,i,rfl,j,(f e).1⟩,trivial,(f (x:=x.2) e).2⟩
 |_=>intro x d h;exact⟨⟨d,[],by simp,h,rfl⟩,trivial,trivial⟩
theorem JG{γ:Nat→Gh}{l:Lo}{U:Nat→Prop}(h:pX t E=some x)(d:t.rep.rel c s E):RR c γ l false x s∧x.ok U:=by
 unfold pX at h;split at h
 ·cases h;exact Y9 d
 ·cases h;exact⟨⟨s,[],by simp,d,rfl⟩,trivial,trivial⟩
 ·rename_i i
  cases h
  have a:jV.rel c s i:=d;obtain⟨f,q,n,k,rfl⟩:=Fe a;obtain⟨rfl,b⟩:=Wz a;exact⟨⟨[_],[_],rfl,rfl,[_],[],rfl,b,rfl⟩,trivial,trivial,trivial⟩
 ·rename_i q
  cases h
  have a:Z9.rel c s q:=d;obtain⟨f,m,n,k,o,j,g,rfl⟩:=Y3 a;obtain⟨e,b⟩:=ZdD a;exact⟨⟨[_,_],[_],rfl,e,[_],[],rfl,b,rfl⟩,trivial,trivial,trivial⟩
 ·rename_i q
  cases h
  have a:rQ.rel c s q:=d;obtain⟨f,m,n,k,o,j,g,rfl⟩:=ZjE a;obtain⟨rfl,e,b⟩:=tO a;exact⟨⟨[_],[_,_],rfl,rfl,[_],[_],rfl,e,[_],[],rfl,b,rfl⟩,trivial,trivial,trivial,trivial⟩
 ·cases h
theorem Uz{U:Nat→Prop}(h:kr t E=some x)(d:t.rep.rel c s E):RR c a k false x s∧x.ok U:=by
 unfold kr at h;split at h
 ·cases h
  obtain⟨e,b,rfl,f,g⟩:=d;exact⟨⟨e,b,rfl,f,b,[],by simp,g,rfl⟩,trivial,trivial,trivial⟩
 ·exact JG h d
theorem Wq(h:kr t E=some x):t.agg=true:=by
 unfold kr at h;split at h
 ·rfl
 ·unfold pX at h;split at h <;> first |rfl |cases h
theorem m7{γ:Nat→Gh}{l:Lo}{U:Nat→Prop}:∀(g:Nat) {x z:V} {p n:Nat} {v:Bool} {w:List Value},f8 g x p n v=some z→RR c γ l false x w→x.ok U→
  RR c γ l false z ((w.drop p).take n)∧z.ok U∧z.size=n∧z.isAgg=v∧p+n≤w.length
 |0,_,_,_,_,_,_,h,_,_=>by cases h
 |g+1,x,z,p,n,v,w,h,d,e=>by
  have k:∀{y:V},(match Nat.beq p 0,Nat.beq y.size n,rU y.isAgg v with
    |true,true,true=>some y
    |_,_,_=>match y with
     |.agg m=>f8 g m p n v
     |.data t x=>match kr t x with
      |some m=>f8 g m p n v
      |none=>none
     |_=>none)=some z→RR c γ l false y w→y.ok U→RR c γ l false z ((w.drop p).take n)∧z.ok U∧z.size=n∧z.isAgg=v∧p+n≤w.length:=by
   intro y s d e;split at s
   ·rename_i q B I
    cases s
    have q:=eH q;have B:=eH B;have O:=o6 d;subst q;refine⟨?_,e,B,Jx I,by omega⟩;rw[List.drop_zero,List.take_of_length_le (by omega)];exact d
   ·split at s
    ·exact m7 g s d e
    ·split at s
     ·rename_i J;obtain⟨q,B⟩:=Uz (U:=U) J d;exact m7 g s q B
     ·cases s
    ·cases s
  cases x with
  |nl=>simp only[f8]at h;cases h
  |cons a b=>
   simp only[f8]at h;obtain⟨M,N,rfl,q,B⟩:=d;have L:=o6 q;split at h
   ·rename_i C;have C:=lB C;obtain⟨E,F,G,H,K⟩:=m7 g h q e.1;refine⟨?_,F,G,H,by rw[lA];omega⟩;rw[List.drop_append_of_le_length (by omega),List.take_append_of_le_length (by rw[List.length_drop];omega)];exact E
   ·split at h
    ·rename_i C;have C:=lB C;obtain⟨E,F,G,H,K⟩:=m7 g h B e.2;refine⟨?_,F,G,H,by rw[lA];omega⟩;rw[List.drop_append,List.drop_of_length_le (by omega),List.nil_append,L];exact E
    ·cases h
  |data t x=>exact k (y:=.data t x) h d e
  |agg m=>exact k (y:=.agg m) h d e
  |nilS=>exact k (y:=.nilS) h d e
  |own u=>exact k (y:=.own u) h d e
  |row u i D A t r=>exact k (y:=.row u i D A t r) h d e
  |ptr u o=>exact k (y:=.ptr u o) h d e
  |el u i A t x o=>exact k (y:=.el u i A t x o) h d e
  |rp u i D A t r=>exact k (y:=.rp u i D A t r) h d e
  |rel u i j D A t r x o=>exact k (y:=.rel u i j D A t r x o) h d e
  |vp t x o=>exact k (y:=.vp t x o) h d e
  |tup m=>exact k (y:=.tup m) h d e
  |fn f m=>exact k (y:=.fn f m) h d e
  |ifc f m=>exact k (y:=.ifc f m) h d e
  |undef=>exact k (y:=.undef) h d e
theorem vI{γ:Nat→Gh}{l:Lo}:∀(g:Nat) {x z B:V} {q:Nat} {w v:List Value},iI g x q z=some B→RR c γ l false x w→RR c γ l false z v→x.ok b→z.ok b→
  RR c γ l false B (w.take q++v++w.drop (q+v.length))∧B.ok b∧q+v.length≤w.length∧B.isAgg=x.isAgg
 |0,_,_,_,_,_,_,h,_,_,_,_=>by cases h
 |g+1,x,z,B,q,w,v,h,k,H,d,J=>by
  have lz:=o6 H
  have n:∀{y:V},y.isAgg=x.isAgg→(match Nat.beq q 0,Nat.beq y.size z.size,rU y.isAgg z.isAgg with
    |true,true,true=>some z
    |_,_,_=>match y with
     |.agg m=>match iI g m q z with
      |some N=>some (.agg N)
      |none=>none
     |.data t x=>match kr t x with
      |some m=>match iI g m q z with
       |some N=>some (.agg N)
       |none=>none
      |none=>none
     |_=>none)=some B→(∀t x,y= .data t x→∀m,kr t x=some m→t.agg=true)→RR c γ l false y w→y.ok b→RR c γ l false B (w.take q++v++w.drop (q+v.length))∧B.ok b∧q+v.length≤w.length∧B.isAgg=x.isAgg:=by
   intro y O s W k d;split at s
   ·rename_i A D U
    cases s
    have A:=eH A;have D:=eH D;have Z:=o6 k;subst A;refine⟨?_,J,by omega,(Jx U).symm.trans O⟩;rw[List.take_zero,List.nil_append,List.drop_of_length_le (by omega),List.append_nil];exact H
   ·split at s
    ·split at s
     ·rename_i E
      cases s
      obtain⟨F,G,L,P⟩:=vI g E k H d J;exact⟨F,G,L,O⟩
     ·cases s
    ·rename_i t Q _;split at s
     ·rename_i m M;split at s
      ·rename_i E
       cases s
       obtain⟨A,D⟩:=Uz (U:=b) M k;obtain⟨F,G,L,P⟩:=vI g E A H D J;exact⟨F,G,L,(W t Q rfl _ M).symm.trans O⟩
      ·cases s
     ·cases s
    ·cases s
  have p:∀{y:V},(∀t x,y ≠ .data t x)→(∀t x,y= .data t x→∀m,kr t x=some m→t.agg=true):=λh t x e=>absurd e (h t x)
  cases x with
  |nl=>simp only[iI]at h;cases h
  |cons a Y=>
   simp only[iI]at h;obtain⟨R,S,rfl,A,D⟩:=k;have X:=o6 A;split at h
   ·rename_i I;have I:=lB I;split at h
    ·rename_i E
     cases h
     obtain⟨F,G,L,P⟩:=vI g E A H d.1 J;refine⟨⟨_,S,?_,F,D⟩,⟨G,d.2⟩,by rw[lA];omega,rfl⟩;rw[List.take_append_of_le_length (by omega),List.drop_append_of_le_length (by omega)];simp
    ·cases h
   ·split at h
    ·rename_i I;have I:=lB I;split at h
     ·rename_i E
      cases h
      obtain⟨F,G,L,P⟩:=vI g E D H d.2 J;refine⟨⟨R,_,?_,A,F⟩,⟨d.1,G⟩,by rw[lA];omega,rfl⟩;rw[List.take_append,List.take_of_length_le (by omega),List.drop_append,List.drop_of_length_le (by omega),X];rw[show q+v.length-a.size=q-a.size+v.length by omega];simp
     ·cases h
    ·cases h
  | data t Q=>exact n (y:=.data t Q) rfl h (λt x e m M=>by
    cases e
    exact Wq M) k d
  |agg m=>exact n (y:=.agg m) rfl h (p λ_ _ e=>by cases e) k d
  |nilS=>exact n (y:=.nilS) rfl h (p λ_ _ e=>by cases e) k d
  |own u=>exact n (y:=.own u) rfl h (p λ_ _ e=>by cases e) k d
  |row u i K C t r=>exact n (y:=.row u i K C t r) rfl h (p λ_ _ e=>by cases e) k d
  |ptr u o=>exact n (y:=.ptr u o) rfl h (p λ_ _ e=>by cases e) k d
  |el u i C t x o=>exact n (y:=.el u i C t x o) rfl h (p λ_ _ e=>by cases e) k d
  |rp u i K C t r=>exact n (y:=.rp u i K C t r) rfl h (p λ_ _ e=>by cases e) k d
  |rel u i j K C t r x o=>exact n (y:=.rel u i j K C t r x o) rfl h (p λ_ _ e=>by cases e) k d
  |vp t x o=>exact n (y:=.vp t x o) rfl h (p λ_ _ e=>by cases e) k d
  |tup m=>exact n (y:=.tup m) rfl h (p λ_ _ e=>by cases e) k d
  |fn f m=>exact n (y:=.fn f m) rfl h (p λ_ _ e=>by cases e) k d
  |ifc f m=>exact n (y:=.ifc f m) rfl h (p λ_ _ e=>by cases e) k d
  |undef=>exact n (y:=.undef) rfl h (p λ_ _ e=>by cases e) k d
def Zn{a:Type}(n:Nat):Ev a→Fr→Lo→(a→Fr→Lo→Prop)→Prop
 |.fail,_,_,_=>False
 |.done r,f,l,K=>K r f l
 |.rdS t k,f,l,K=>∃e,eC f t=some e∧Zn n (k e.x) f l K
 |.rdL u k,f,l,K=>∃e,eC l u=some e∧Zn n (k e.st e.x) f l K
 |.wrS t x e,f,l,K=>Zn n e (⟨t,n,x⟩ :: f) l K
 |.wrL u L e,f,l,K=>Zn n e f (⟨u,n,L⟩ :: era l u) K
 |.new u L e,f,l,K=>eC l u=none∧Zn n e f (⟨u,n,L⟩ :: l) K
 |.del u e,f,l,K=>Zn n e f (era l u) K
 |.bind x k,f,l,K=>∃y,x=some y∧Zn n (k y) f l K
 |.test t c d,f,l,K=>∃s b,eC f t=some ⟨t,s,.data .bool b⟩∧(b=true→Zn n c (⟨t,s,.data .bool b⟩ :: f) l K)∧(b=false→Zn n d (⟨t,s,.data .bool b⟩ :: f) l K)
theorem BM{r:π}:∀{e:Ev p} {c:Fr} {l:Lo} {K:p→Fr→Lo→Option π},iH f e c l K=some r→Zn f e c l λx i q=>K x i q=some r:=by
 intro e
 induction e with
 |fail=>intro c l K h;cases h
 |done x=>intro c l K h;exact h
 |rdS t k a=>
  intro c l K h;simp only[iH]at h;split at h
  ·rename_i x d;exact⟨x,d,a _ h⟩
  ·cases h
 |rdL u k a=>
  intro c l K h;simp only[iH]at h;split at h
  ·rename_i x d;exact⟨x,d,a _ _ h⟩
  ·cases h
 |wrS t x e a=>intro c l K h;exact a h
 |wrL u L e a=>intro c l K h;exact a h
 |new u L e a=>
  intro c l K h;simp only[iH]at h;split at h
  ·rename_i d;exact⟨d,a h⟩
  ·cases h
 |del u e a=>intro c l K h;exact a h
 |bind x k a=>
  intro c l K h;obtain⟨y,m,j⟩:=f9 h;exact⟨y,m,a _ j⟩
 |test t v w n o=>
  intro c l K h;simp only[iH]at h;split at h
  ·rename_i k s b d;obtain⟨_,g⟩:=Zv d;have g:k=t:=g;subst g;refine⟨s,b,d,λe=>?_,λe=>?_⟩
   ·subst e;exact n h
   ·subst e;exact o h
  ·cases h
theorem Zn.mono:∀{e:Ev p} {a:Fr} {l:Lo} {K d:p→Fr→Lo→Prop},Zn f e a l K→(∀r a l,K r a l→d r a l)→Zn f e a l d:=by
 intro e
 induction e with
 |fail=>intro a l K d h k;exact h
 |done x=>intro a l K d h k;exact k _ _ _ h
 |rdS t q c=>intro a l K d h k;obtain⟨x,g,h⟩:=h;exact⟨x,g,c _ h k⟩
 |rdL u q c=>intro a l K d h k;obtain⟨x,g,h⟩:=h;exact⟨x,g,c _ _ h k⟩
 |wrS t x e c=>intro a l K d h k;exact c h k
 |wrL u L e c=>intro a l K d h k;exact c h k
 |new u L e c=>intro a l K d h k;exact⟨h.1,c h.2 k⟩
 |del u e c=>intro a l K d h k;exact c h k
 |bind x q c=>intro a l K d h k;obtain⟨x,g,h⟩:=h;exact⟨x,g,c _ h k⟩
 |test t v w n o=>
  intro a l K d h k;obtain⟨s,b,i,j,m⟩:=h;exact⟨s,b,i,λe=>n (j e) k,λe=>o (m e) k⟩
theorem Le.upd{N:Nat}(o:dZ N e j c b h r k m g a n d)(z:eC k q=some Z)(A:n.le θ)(w:∀l,l≠q→v l=a l)(u:CE b a v q Z.st I Z.x U):
  Le b n a k θ v (⟨q,I,U⟩ :: Go.Eng.era k q):=by
 obtain⟨E,t,_⟩:=o.lr;refine⟨A,λl s _ i=>?_⟩;rw[ZU]at i;split at i
 ·rename_i f
  cases i
  have f:q=l:=f;subst f;exact⟨Z,z,u⟩
 ·rename_i f;have f:¬q=l:=f;rw[kG o.nd,iN f]at i;refine⟨s,i,?_⟩;obtain⟨x,p⟩:=Zv i;obtain⟨es,y⟩:=vT t x;have:=CY (U:=b) (γ':=v) y (w _ (by rw[p];exact λZ=>f Z.symm));rw[p]at this;exact this
theorem CE.tr{o:Nat→Gh}{H:LV}(c:CE b a v f q I U η)(d:CE b v o f I Q η H):CE b a o f q Q U H:=by
 have X:∀{k h i:T} {j:List (List k.den)} {p:List (List h.den)} {G:List (List i.den)} {w x F:Nat},lV b a v f q I k j w h p x→lV b v o f I Q h p x i G F→lV b a o f q Q k j w i G F:=by
  rintro k h i j p G w x F ⟨r,y,⟨ob,e,g,a0,s,z,K⟩,L⟩ ⟨l,A,⟨Z,O,a1,a2,u,C,M⟩,N⟩;rw[z]at u;cases u;refine⟨l.trans r,by omega,⟨_,_,g,a2,s,C,λn=>?_⟩,λn=>?_⟩
  ·obtain⟨m,B,P⟩:=M n;obtain⟨R,S,W⟩:=K (by rw[←m];exact n);exact⟨m.trans R,B.trans S,P.trans W⟩
  ·obtain⟨m,B⟩:=N n;have:=L (by rw[←m];exact n);exact⟨m.trans this.1,B.trans this.2⟩
 have Y:∀{k h i:T} {j:List (List k.den)} {p:List (List h.den)} {J:List i.den} {w x:Nat},lV b a v f q I k j w h p x→(∃ob e g,v f= .mat ob e g∧o f= .own ob e∧J.length=p.length)→∃ob e g,a f= .mat ob e g∧o f= .own ob e∧J.length=j.length:=by
  rintro k h i j p J w x ⟨r,y,⟨ob,e,g,a0,s,z,_⟩,_⟩ ⟨Z,O,a1,l,A,u⟩;rw[z]at l;cases l;exact⟨_,_,g,s,A,by omega⟩
 have oo:∀{k h i:T} {j:List (List k.den)} {D:List h.den} {E:List i.den},(∃ob e g,a f= .mat ob e g∧v f= .own ob e∧D.length=j.length)→(o f=v f∧i=h∧E.length=D.length∧(b Q→Q=I∧(⟨i,E⟩:(t:T)×List t.den)=⟨h,D⟩))→∃ob e g,a f= .mat ob e g∧o f= .own ob e∧E.length=j.length:=by
  rintro k h i j D E ⟨ob,e,g,r,y,s⟩ ⟨l,A,u,C⟩;exact⟨ob,e,g,r,by rw[l,y],by omega⟩
 cases U <;> cases η <;> simp only[CE]at c <;> cases H <;> simp only[CE]at d ⊢
 ·rw[d,c]
 ·obtain⟨r,y,s,z⟩:=c;obtain⟨l,A,u,C⟩:=d;refine⟨l.trans r,A.trans y,u.trans s,λn=>?_⟩;obtain⟨m,B⟩:=C n;have:=z (by rw[←m];exact n);exact⟨m.trans this.1,B.trans this.2⟩
 all_goals first |exact X c d |exact Y c d |exact oo c d |exact⟨d.1.trans c.1,d.2.trans c.2⟩ |exact⟨d.1.trans c.1,d.2.1.trans c.2.1,d.2.2.trans c.2.2⟩ |exact d.trans c |exact⟨d.1.trans c.1,d.2.2.1.trans c.2⟩ |exact⟨d.1.trans c.1,by rw[d.2,c.2.2]⟩
theorem Le.trans{g:Nat→Gh}{f:Lo}(h:Le b c a k n v μ)(e:Le b n v μ θ g f):Le b c a k θ g f:=by
 refine⟨Zb.le_trans h.v e.v,λu o d r=>?_⟩;obtain⟨m,q,j⟩:=e.l u o d r;obtain⟨l,p,i⟩:=h.l u m d q;refine⟨l,p,?_⟩;exact CE.tr i j
theorem Uw{N:Nat}:∀{i:List (Option Nat×Nat)} {d:List (List t.den)} {es b:List dY} {v:Zb},gk v l t i d es→St N j c [] (es++b) v m g→
  ∃ e,v.le e∧St N j c [] b e m g∧(Zy t.rep).rels e (Zq i d) d
 |[],[],es,b,v,a,hs=>by rw[show es=[] from a]at hs;exact⟨v,Zb.le_refl _,hs,rfl⟩
 |p :: A,r :: B,es,b,v,⟨y,z,k,n,o⟩,hs=>by
  subst n
  obtain⟨C,f,u,q⟩:=hs.pubSlice (i:=0) (A:=t.rep) (l:=r) rfl (ZK t).symm rfl k rfl
  obtain⟨x,h,w,s⟩:=Uw (mn f o) u
  exact⟨x,Zb.le_trans f h,w,[_],_,rfl,ee.mono _ h q,s⟩
 |[],_ :: _,_,_,_,a,_=>a.elim
 |_ :: _,[],_,_,_,a,_=>a.elim
theorem dZ.freeze{N:Nat}(o:dZ N e j c b h r k m g a n d)(J:St N j c [] (M++d) n m g)(v:eC k q=some ⟨Q,W,.own l t w false⟩)(L:¬b I)(H:h I):
  ∃ f A ,dZ N e j c b h r (⟨q,I,.own l t w true⟩ :: era k q) m g a f A∧St N j c [] (M++A) f m g∧Le b n a k f a (⟨q,I,.own l t w true⟩ :: era k q)∧∃ob i,a q= .own ob i∧(Zy t.rep).rel f [.slice (eF ob) w.length i] w:=by
 obtain⟨K,u⟩:=Zv v;have u:Q=q:=u;subst u;obtain⟨es,s,E,F,_,G,_⟩:=o.del v;obtain⟨ob,i,B,x,D,rfl⟩:=E;have hs:St N j c [] (.own ob l t.n w.length i B :: (M++s.flatten)) n m g:=J.perm ((List.Perm.append_left M G).trans (by rw[List.singleton_append];exact List.perm_middle));obtain⟨f,P,p,z⟩:=hs.pubSlice (i:=0) (A:=t.rep) (l:=w) rfl (ZK t).symm rfl D rfl;have p:St N j c [] (M++s.flatten) f m g:=p;have O:St N j c [] s.flatten f m g:=p.drop (List.sublist_append_right _ _);have y:Le b n a k f a (⟨Q,I,.own l t w true⟩ :: era k Q):=Le.upd o v P (λ_ _=>rfl) ⟨rfl,rfl,rfl,λC=>absurd C L⟩;exact⟨f,_,o.upd H (o.ul _ K).1 F O y (λ_ _=>rfl) ⟨ob,i,x,z,rfl⟩ (List.Perm.refl _) trivial,p,y,ob,i,x,z⟩
def lF(a:Nat→Gh)(u:Nat)(g:Gh):Nat→Gh:=λk=>if k=u then g else a k
theorem iR{g:Gh}:lF a f g f=g:=iP rfl
theorem kP{g:Gh}(h:q≠f):lF a f g q=a q:=iN h
theorem dZ.freezeM{N:Nat}(p:dZ N e j c b h r k m g a n d)(O:St N j c [] (M++d) n m g)(x:eC k q=some ⟨Q,W,.mat l F t D α⟩)(Y:¬b I)(L:h I):
  ∃ y i C ,dZ N e j c b h r (⟨q,I,.own l (.slice t) D true⟩ :: era k q) m g y i C∧St N j c [] (M++C) i m g∧Le b n a k i y (⟨q,I,.own l (.slice t) D true⟩ :: era k q)∧∃ob f o,a q= .mat ob f o∧y q= .own ob f∧(Zy (Zy t.rep)).rel i [.slice (eF ob) D.length f] D:=by
 obtain⟨P,v⟩:=Zv x;have v:Q=q:=v;subst v;obtain⟨es,u,H,J,_,K,_⟩:=p.del x;obtain⟨ob,f,o,E,z,G,rfl⟩:=H;have hs:St N j c [] (E++(.own ob l 1 D.length f (Zq o D) :: (M++u.flatten))) n m g:=O.perm ((List.Perm.append_left M K).trans (by
  rw[List.cons_append];refine List.perm_middle.trans ?_;refine(List.Perm.cons _ ?_).trans List.perm_middle.symm;rw[←fj,←fj];exact List.Perm.append_right _ List.perm_append_comm))
 obtain⟨Z,X,U,R⟩:=Uw G hs;obtain⟨i,α,s,B⟩:=U.pubSlice (i:=0) (A:=Zy t.rep) (l:=D) rfl rfl rfl R rfl;have s:St N j c [] (M++u.flatten) i m g:=s;have S:St N j c [] u.flatten i m g:=s.drop (List.sublist_append_right _ _);have A:Le b n a k i (lF a Q (.own ob f)) (⟨Q,I,.own l (.slice t) D true⟩ :: era k Q):=Le.upd p x (Zb.le_trans X α) (λ_ w=>kP w) ⟨ob,f,o,z,iR,rfl⟩;refine⟨_,i,_,p.upd L (p.ul _ P).1 J S A (λ_ w=>kP w) ⟨ob,f,iR,B,rfl⟩ (List.Perm.refl _) trivial,s,A,ob,f,o,z,iR,B⟩
theorem fK{a:T}{y:a.den}(h:T.cast t a E=some y):∃e:t=a,e▸ E=y:=by
 unfold T.cast at h;have:∀(b:Bool) (c:T.beq t a=b),T.castB t a b c E=some y→∃e:t=a,e▸ E=y:=by
  intro b c h
  cases b with
  |true=>exact⟨T.beq_eq c,Option.some.inj h⟩
  |false=>cases h
 exact this _ _ h
theorem ZjC:∀{t:T} {x:t.den},(Dx t x).ok b:=by
 intro t
 induction t with
 |pair a d e c=>intro x;exact⟨trivial,c (x:=x.2)⟩
 |_=>intro x;exact⟨trivial,trivial⟩
theorem P9{t:T}{x:t.den}{c:V}(h:pX t x=some c):c.ok b:=by
 unfold pX at h;split at h
 ·cases h;exact ZjC
 ·cases h;exact⟨trivial,trivial⟩
 ·cases h;exact⟨trivial,trivial,trivial⟩
 ·cases h;exact⟨trivial,trivial,trivial⟩
 ·cases h;exact⟨trivial,trivial,trivial,trivial⟩
 ·cases h
theorem ON(h:kr t E=some x):x.ok b:=by
 unfold kr at h;split at h
 ·cases h;exact⟨trivial,trivial,trivial⟩
 ·exact P9 h
theorem U3{f:T}{y:f.den}(i:t.rep.rel c s E)(h:rH t f E=some y):f.rep.rel c s y∧t.rep.n=f.rep.n:=by
 unfold rH at h;split at h
 ·rename_i m
  cases h
  obtain⟨e,a⟩:=fK m;subst e;subst a;exact⟨i,rfl⟩
 ·split at h
  ·rename_i r o;obtain⟨e,a⟩:=fK o;subst e;subst a;split at h
   ·rename_i q n;obtain⟨e,a⟩:=fK h;subst e;subst a;obtain⟨j,p,rfl,g,k,l,rfl,b,d⟩:=i;have g:j=[.bool _]:=g;subst g;have b:iF.rel c k _:=b;have d:iF.rel c l _:=d;obtain⟨z,w,u,rfl⟩:=oV b;obtain⟨A,x,v,rfl⟩:=oV d;exact⟨U8 b d n,rfl⟩
   ·cases h
  ·cases h
theorem ZdE{a:Option p}{q:Option π}{z:p×π}(h:nM a q=some z):a=some z.1∧q=some z.2:=by
 cases a <;> cases q <;> first |(cases h;done) |(cases h;exact⟨rfl,rfl⟩)
theorem yN:∀{s t:T} {x:s.den} {y:t.den} {e:List Value},s.rep.rel c e x→Cm s t x=some y→t.rep.rel c e y∧s.rep.n=t.rep.n:=by
 intro s
 induction s with
 |pair a b m n=>
  intro t x y e f h
  cases t with
  |pair g d=>
   obtain⟨k,l⟩:=ZdE (show nM (Cm a g x.1) (Cm b d x.2)=some y from h);obtain⟨i,j,rfl,u,v⟩:=f;obtain⟨o,p⟩:=m u k;obtain⟨q,r⟩:=n v l;exact⟨⟨i,j,rfl,o,q⟩,by show _+_=_+_;rw[p,r]⟩
  |_=>exact U3 f h
 |_=>intro t x y e f h;exact U3 f h
theorem Vc{b:T}:∀{l:List t.den} {f:List b.den} {a:List Value},t.rep.rels c a l→nQ t b l=some f→b.rep.rels c a f∧f.length=l.length∧(l≠[]→t.rep.n=b.rep.n)
 |[],_,a,d,h=>by cases h;exact⟨d,rfl,λe=>absurd rfl e⟩
 |x :: l,_,a,d,h=>by
  simp only[nQ]at h
  split at h
  ·rename_i y z j k
   cases h
   obtain⟨g,i,rfl,q,r⟩:=d
   obtain⟨m,n⟩:=yN q j
   obtain⟨o,p,_⟩:=Vc r k
   exact⟨⟨g,i,rfl,m,o⟩,by simp[p],λ_=>n⟩
  ·cases h
theorem ZiF{a:T}{j:List a.den}(u:(Zy t.rep).rel c s w)(h:nQ t a w=some j):(Zy a.rep).rel c s j:=by
 obtain⟨q,d,rfl,n,f,o⟩:=u;rcases o with rfl |⟨b,y,l,k,m,e,p,r⟩
 ·cases h;exact⟨q,d,rfl,n,f,.inl rfl⟩
 ·obtain⟨v,i,x⟩:=Vc r h;refine⟨q,d,by rw[i],by omega,f,?_⟩;by_cases g:w=[]
  ·subst g;cases h;exact .inl rfl
  ·exact .inr ⟨b,y,l,k,m,e,p,by rw[i,←x g];exact v⟩
theorem dZ.go{N:Nat}(f:dZ N e j c b h r k m g a n d)(s:n.le θ)(v:St N j c [] d θ m L):dZ N e j c b h r k m L a θ d:=by
 obtain⟨E,q,hp⟩:=f.lr;have p:Le b n a k θ a k:=Le.refl q s;exact⟨v,λt i l=>jD p (f.uf t i l).1 (f.fr t i l),⟨E,q.imp λi l es u=>CP p (f.ul i l).2.2 rfl u,hp⟩,f.nd,f.uf,f.ul,λx y o=>⟨jD p (f.gh x y o).2 (f.gh x y o).1,(f.gh x y o).2⟩⟩
theorem iT{N:Nat}(G:¬b q)(F:h q):∀(D:Nat) {t:T} {x:V} {k:t.den→Ev p} {l:Lo} {ad:p→Fr→Lo→Prop} {I:Nat→Gh} {v:Zb} {Z ex:List dY},Zn q (conv D t x k) r l ad→dZ N e j c b h r l m g I v Z→St N j c [] (ex++Z) v m g→x.ok b→
  ∃ y l' al v' ab,Zn q (k y) r l' ad∧dZ N e j c b h r l' m g al v' ab∧St N j c [] (ex++ab) v' m g∧Le b v I l v' al l'∧∀i,RR v I l false x i→t.rep.rel v' i y
 |0,_,_,_,_,_,_,_,_,_,a,_,_,_=>a.elim
 |D+1,t,x,k,l,ad,I,v,Z,ex,a,o,A,hk=>by
  obtain⟨E,hE,_⟩:=o.lr
  have a3:Le b v I l v I l:=Le.refl hE (Zb.le_refl _)
  cases x with
  |data s x=>
   simp only[conv]at a
   split at a
   ·rename_i y z
    obtain⟨af,R⟩:=fK z
    subst af;subst R
    exact⟨_,l,I,v,Z,a,o,A,a3,λi f=>f⟩
   ·split at a
    ·exact⟨_,l,I,v,Z,a,o,A,a3,λi f=>f⟩
    ·exact⟨_,l,I,v,Z,a,o,A,a3,λi f=>f⟩
    ·obtain⟨y,z,a⟩:=a;exact⟨y,l,I,v,Z,a,o,A,a3,λi f=>rF f z⟩
    ·obtain⟨y,z,a⟩:=a;exact⟨y,l,I,v,Z,a,o,A,a3,λi f=>ZzE f z⟩
    ·obtain⟨y,z,a⟩:=a;exact⟨y,l,I,v,Z,a,o,A,a3,λi f=>ZiF f z⟩
    ·split at a
     ·rename_i a4 hc
      obtain⟨y,K,M,H,O,W,k2,C,k3,k4⟩:=iT G F D a o A (x:=.agg a4) (P9 (c:=a4) (t:=s) (x:=x) hc:a4.ok b)
      exact⟨y,K,M,H,O,W,k2,C,k3,λi f=>k4 i (JG (U:=b) (γ:=I) (l:=l) hc f).1⟩
     ·exact a.elim
  |nilS=>
   simp only[conv]at a
   split at a
   ·exact⟨_,l,I,v,Z,a,o,A,a3,λi f=>by rw[show i=_ from f];exact Db _ _⟩
   ·exact⟨_,l,I,v,Z,a,o,A,a3,λi f=>by rw[show i=_ from f];exact BR _⟩
   ·exact⟨_,l,I,v,Z,a,o,A,a3,λi f=>by rw[show i=_ from f];exact GZ _⟩
   ·exact a.elim
  |own u=>
   simp only[conv]at a
   obtain⟨af,R,a⟩:=a
   obtain⟨kk,st,L⟩:=af
   obtain⟨hm,a8⟩:=Zv R
   have a8:kk=u:=a8
   subst a8
   cases L with
   |box _ _=>exact a.elim
   |mid _ _ _ _ _ _=>exact a.elim
   |own ty s xs fz=>
    cases fz with
    |true=>
     obtain⟨es,az⟩:=vT hE hm
     obtain⟨ob,ae,g1,g2,_⟩:=az
     have g1:I kk= .own ob ae:=g1
     obtain⟨y,K,M,H,O,W,k2,C,k3,k4⟩:=iT G F D a o A (x:=.data (.slice s) xs) trivial
     refine⟨y,K,M,H,O,W,k2,C,k3,λi f=>?_⟩
     obtain⟨y',rfl,hp,z⟩:=f
     obtain⟨au,am,g3,g4⟩:=z _ R
     rw[g1]at g3;cases g3
     subst g4
     exact k4 _ g2
    |false=>
     obtain⟨v',ab,f1,J,f2,ob,ae,g1,g2⟩:=o.freeze A R G F
     obtain⟨y,K,M,H,O,W,k2,C,k3,k4⟩:=iT G F D a f1 J (x:=.data (.slice s) xs) trivial
     refine⟨y,K,M,H,O,W,k2,C,f2.trans k3,λi f=>?_⟩
     obtain⟨y',rfl,hp,z⟩:=f
     obtain⟨au,am,g3,g4⟩:=z _ R
     rw[g1]at g3;cases g3
     subst g4
     exact k4 _ g2
   |mat ty _ s a5 _=>
    obtain⟨al,v',ab,f1,J,f2,ob,ae,bc,g1,bb,g2⟩:=o.freezeM A R G F
    obtain⟨y,K,M,H,O,W,k2,C,k3,k4⟩:=iT G F D a f1 J (x:=.data (.slice (.slice s)) a5) trivial
    refine⟨y,K,M,H,O,W,k2,C,f2.trans k3,λi f=>?_⟩
    obtain⟨y',rfl,hp,z⟩:=f
    obtain⟨au,am,bd,g3,g4⟩:=z _ R
    rw[g1]at g3;cases g3
    subst g4
    exact k4 _ g2
  |agg a4=>
   cases a4 with
   |cons x1 a4=>
    cases a4 with
    |cons x2 ak=>
     have a7:x1.ok b:=hk.1
     have a1:x2.ok b:=hk.2.1
     have ai:ak.ok b:=hk.2.2
     simp only[conv]at a
     split at a
     · -- an integer
      obtain⟨s,l1,a2,v1,a6,a,Q,J,B,n⟩:=iT G F D a o A a7
      obtain⟨a5,K,M,H,O,a,Y,C,S,w⟩:=iT G F D a Q J a1
      obtain⟨y,z,a⟩:=a
      refine⟨y,K,M,H,O,a,Y,C,B.trans S,λi f=>?_⟩
      obtain⟨c1,a9,rfl,a0,X,c3,rfl,U,P⟩:=f
      have P:c3=[]:=P
      subst P
      have n:=n _ a0
      have w:=w _ (jl B a1 U)
      have n:c1=[.bool s]:=ee.mono ny S.v n
      subst n
      have w:Zx.rel H X a5:=w
      obtain⟨qa,na,ka,rfl⟩:=ig w
      exact WC w z
     · -- m fraction
      obtain⟨s,l1,a2,v1,a6,a,Q,J,B,n⟩:=iT G F D a o A a7
      obtain⟨a5,K,M,H,O,a,Y,C,S,w⟩:=iT G F D a Q J a1
      obtain⟨y,z,a⟩:=a
      refine⟨y,K,M,H,O,a,Y,C,B.trans S,λi f=>?_⟩
      obtain⟨c1,a9,rfl,a0,X,c3,rfl,U,P⟩:=f
      have P:c3=[]:=P
      subst P
      have n:=n _ a0
      have w:=w _ (jl B a1 U)
      have n:jV.rel H c1 s:=ee.mono jV S.v n
      obtain⟨sb,qb,nb,kb,rfl⟩:=Fe n
      have w:Zx.rel H X a5:=w
      obtain⟨qa,na,ka,rfl⟩:=ig w
      exact XJ n w z
     · -- the reference's fraction
      rename_i x3 _
      have aq:x3.ok b:=ai.1
      obtain⟨s,l1,a2,v1,a6,a,Q,J,B,n⟩:=iT G F D a o A a7
      obtain⟨a5,K,M,H,O,a,Y,C,S,w⟩:=iT G F D a Q J a1
      obtain⟨d,l3,b5,v3,b6,a,r3,e3,ar,q3⟩:=iT G F D a Y C aq
      obtain⟨y,z,a⟩:=a
      refine⟨y,l3,b5,v3,b6,a,r3,e3,(B.trans S).trans ar,λi f=>?_⟩
      obtain⟨c1,a9,rfl,a0,X,c3,rfl,U,P⟩:=f
      obtain⟨c4,c5,rfl,b2,aj⟩:=P
      have aj:c5=[]:=aj
      subst aj
      have n:=n _ a0
      have w:=w _ (jl B a1 U)
      have q3:=q3 _ (jl (B.trans S) aq b2)
      have n:c1=[.bool s]:=n
      subst n
      have w:iF.rel v3 X a5:=ee.mono iF ar.v w
      obtain⟨qa,na,ka,rfl⟩:=oV w
      have q3:iF.rel v3 c4 d:=q3
      obtain⟨qb,nb,kb,rfl⟩:=oV q3
      exact U8 w q3 z
     ·obtain⟨y1,l1,a2,v1,a6,a,Q,J,B,n⟩:=iT G F D a o A a7
      obtain⟨y2,K,M,H,O,a,Y,C,S,w⟩:=iT G F D a Q J a1
      refine⟨_,K,M,H,O,a,Y,C,B.trans S,λi f=>?_⟩
      obtain⟨c1,a9,rfl,a0,X,c3,rfl,U,P⟩:=f
      have P:c3=[]:=P
      subst P
      exact⟨c1,X,by simp,ee.mono _ S.v (n _ a0),w _ (jl B a1 U)⟩
     ·obtain⟨y1,l1,a2,v1,a6,a,Q,J,B,n⟩:=iT G F D a o A a7
      obtain⟨y2,K,M,H,O,a,Y,C,S,w⟩:=iT G F D a Q J (x:=.agg (.cons x2 ak)) ⟨a1,ai⟩
      refine⟨_,K,M,H,O,a,Y,C,B.trans S,λi f=>?_⟩
      obtain⟨c1,a9,rfl,a0,X,c3,rfl,U,P⟩:=f
      exact⟨c1,X++c3,rfl,ee.mono _ S.v (n _ a0),w _ (jl B (x:=.agg (.cons x2 ak)) ⟨a1,ai⟩ (m:=false) ⟨X,c3,rfl,U,P⟩)⟩
     ·exact a.elim
    |nl=>
     simp only[conv]at a
     split at a
     ·obtain⟨y1,l1,a2,v1,a6,a,Q,J,B,n⟩:=iT G F D a o A hk.1
      refine⟨_,l1,a2,v1,a6,a,Q,J,B,λi f=>?_⟩
      obtain⟨c1,X,rfl,a0,U⟩:=f
      have U:X=[]:=U
      subst U
      rw[List.append_nil];exact n _ a0
     ·exact a.elim
    |_=>simp only[conv]at a;exact a.elim
   |_=>simp only[conv]at a;exact a.elim
  |ptr u b3=>
   cases b3 with
   |succ _=>simp only[conv]at a;exact a.elim
   |zero=>
    simp only[conv]at a
    split at a
    ·obtain⟨⟨k0,fR,L⟩,R,a⟩:=a
     have a8:k0=u:=(Zv R).2
     subst a8
     cases L with
     |box b4 a4=>
      simp only at a
      obtain⟨es,E',h1,_,_,h3,_⟩:=o.del R
      obtain⟨b',i,g2,g3,g4,rfl⟩:=h1
      have g2:I k0= .box b':=g2
      obtain⟨x1,l1,a2,v1,a6,hB,Q,J,B,n⟩:=iT G F D a o A (o.ul _ (Zv R).1).2.2
      obtain⟨⟨W,fh,L1⟩,ah,hC⟩:=hB
      have b0:W=k0:=(Zv ah).2
      subst b0
      cases L1 with
      |box av c1=>
       obtain⟨b9,ap,ag⟩:=B.l _ _ hk ah
       rw[R]at ap;cases ap
       have ag:a2 W=I W:=ag
       obtain⟨ba,E1,f1,_,_,f3,Y⟩:=Q.del ah
       obtain⟨b1,ao,f4,f5,f6,rfl⟩:=f1
       have f4:a2 W= .box b1:=f4
       rw[ag,g2]at f4;cases f4
       have m0:=(o.st.loc _ (h3.mem_iff.2 (List.mem_append_left _ (List.mem_singleton.2 rfl)))).1
       have m1:=(Q.st.loc _ (f3.mem_iff.2 (List.mem_append_left _ (List.mem_singleton.2 rfl)))).1
       have m0:g.heap[b']?= some (.cells i.toArray b4 (0,0)):=m0
       have m1:g.heap[b']?= some (.cells ao.toArray av (0,0)):=m1
       rw[m0]at m1
       have ay:i=ao:=by
        have:=Option.some.inj m1
        injection this with h1 _ _
        have:=congrArg Array.toList h1
        simpa using this
       subst ay;have C:St N j c [] (.box b' av i :: (ex++E1.flatten)) v1 m g:=J.perm ((List.Perm.append_left ex f3).trans List.perm_middle);obtain⟨v',hv,aa,aw⟩:=C.pubVar (i:=0) rfl rfl;have aa:St N j c [] (ex++E1.flatten) v' m g:=aa;have r3:=Y.go hv (aa.drop (List.sublist_append_right _ _));obtain⟨E3,ax,_⟩:=Y.lr;refine⟨x1,_,a2,v',_,hC,r3,aa,(B.trans (Le.era Q W)).trans (Le.refl ax hv),λb8 f=>?_⟩;obtain⟨y',rfl,_,z⟩:=f;obtain⟨b7,g5,rfl⟩:=z _ R;rw[g2]at g5;cases g5;exact tM aw (ee.mono _ hv (n _ g3))
      |own _ _ _ _=>exact hC.elim
      |mid _ _ _ _ _ _=>exact hC.elim
      |mat _ _ _ _ _=>exact hC.elim
     |own _ _ _ _=>exact a.elim
     |mid _ _ _ _ _ _=>exact a.elim
     |mat _ _ _ _ _=>exact a.elim
    ·exact a.elim
  |_=>simp only[conv]at a;exact a.elim
theorem pp{N:Nat}(H:¬b q)(F:h q)(v:Nat){z:t.den→Ev p}(A:Zn q (conv v t x z) r k y)(w:dZ N e j c b h r k m g a n d)(G:x.ok b):
  ∃ l f o i s,Zn q (z l) r f y∧dZ N e j c b h r f m g o i s∧Le b n a k i o f∧∀u,RR n a k false x u→t.rep.rel i u l:=by
 obtain⟨l,f,o,i,s,B,C,_,D,E⟩:=iT (ex:=[]) H F v A w w.st G;exact⟨l,f,o,i,s,B,C,D,E⟩
theorem VK{Q:Exit→Act→World→Prop}{c:Code}(h:c.wp o (Exit.then (Code.rounds o c Q f) Q) m g):Code.rounds o c Q (f+1) m g:=h
theorem X2(b:St f j c z d n m g){a i:Value}(e:ev z G=some u)(k:ev z ζ=some a)(h:(Instr.index F u a).run o g= .ok i g):
  (execOp m.eval ⟨C,.index F G ζ,l,O,J,B⟩).run o g= .ok (.value i) g:=by
 simp[execOp,b.eval e,b.eval k,h]
theorem St.evs(h:St f j c [] d n m g):∀k:List Operand,∃b,St f j c b d n m g∧∀x ∈ k,ev b x=some (m.eval x)
 |[]=>⟨[],h,λ_ e=>by cases e⟩
 |x :: k=>by
  obtain⟨b,hs,i⟩:=St.evs h k
  cases x with
  |tmp t=>
   refine⟨(t,m.tmps.getD t undef) :: b,hs.learn rfl,λz a=>?_⟩
   rcases List.mem_cons.1 a with rfl |a
   ·exact v7 rfl
   ·have l:=i z a
    cases z with
    |tmp o=>
     by_cases e:t=o
     ·subst e;exact v7 rfl
     ·show look _ o=_;rw[Cj e];exact l
    |_=>exact l
  |const q=>exact⟨b,hs,λz a=>by rcases List.mem_cons.1 a with rfl |a;exact rfl;exact i z a⟩
  |global p=>exact⟨b,hs,λz a=>by rcases List.mem_cons.1 a with rfl |a;exact rfl;exact i z a⟩
  |func p=>exact⟨b,hs,λz a=>by rcases List.mem_cons.1 a with rfl |a;exact rfl;exact i z a⟩
theorem St.ev1(h:St f j c [] d n m g)(x:Operand):∃a,St f j c a d n m g∧ev a x=some (m.eval x):=by
 obtain⟨a,b,e⟩:=h.evs [x];exact⟨a,b,e x (by simp)⟩
theorem St.ev2(h:St f j c [] d n m g)(x y:Operand):∃a,St f j c a d n m g∧ev a x=some (m.eval x)∧ev a y=some (m.eval y):=by
 obtain⟨a,e,b⟩:=h.evs [x,y];exact⟨a,e,b x (by simp),b y (by simp)⟩
def gP(P:Program)(N:Nat)(G:V→Value→Prop)(g:dW)(e:Zb)(X:Nat→Prop)(o:Oper)(a:Act)(w:World)(d:Unit→Fr→Lo→Prop):Prop :=
 jB P o a w λx f=>∃b c,d () b c∧fG N G g e X b c (a.put o.dst x) f
theorem gr{N:Nat}{x:V}(v:dZ N e j c b b r k m L a n d)(w:(execOp m.eval K).run o g= .ok (.value u) L)(s:∀f,K.dst=some f→f<N)(p:b q)(y:RV n a k x u)(t:x.ok b)(h:Zn q (ret K x) r k i):gP o N e j c b K m g i:=by
 unfold ret at h;refine qt w ?_
 cases l:K.dst with
 |none=>rw[l]at h;exact h.elim
 |some f=>
  rw[l]at h;exact⟨_,_,h,_,_,_,v.put (s f l) y t p⟩
theorem fS{N:Nat}{x:V}(y:dZ N e j c b h r k m g a n d)(s:∀p,b p→h p)(z:(execOp m.eval K).run o g= .ok (.value u) g)(v:∀l,K.dst=some l→l<N)(t:h q)(A:RV n a k x u)(w:x.ok h)(f:Zn q (ret K x) r k i):gP o N e j c h K m g i :=
 gr (y.mono s λ_ f=>f) z v t A w f
def Eh(P:Program)(N:Nat)(G:V→Value→Prop)(f:dW)(e:Zb)(X:Nat→Prop)(o:Oper)(a:Act)(w:World)(d:Unit→Fr→Lo→Prop):Prop :=
 ∃ y,(execOp a.eval o).run P w= .ok (.value y) w∧∃b c,d () b c∧fG N G f e X b c (a.put o.dst y) w
theorem Eh.good{N:Nat}(h:Eh o N e j c b K m g i):gP o N e j c b K m g i:=by
 obtain⟨y,a,d⟩:=h;exact qt a d
theorem qP{N:Nat}{x:V}(z:dZ N e j c b h r k m g a n d)(t:∀s,b s→h s)(A:(execOp m.eval K).run o g= .ok (.value u) g)(w:∀l,K.dst=some l→l<N)(v:h q)(B:RV n a k x u)(y:x.ok h)(f:Zn q (ret K x) r k i):Eh o N e j c h K m g i:=by
 unfold ret at f;refine⟨u,A,?_⟩
 cases p:K.dst with
 |none=>rw[p]at f;exact f.elim
 |some l=>
  rw[p]at f;exact⟨_,_,f,_,_,_,(z.mono t λ_ f=>f).put (w l p) B y v⟩
theorem km(h:RR c a k false x s)(d:∀b,x ≠ .tup b):RV c a k x (x.val s):=by
 cases x with
 |tup b=>exact absurd rfl (d b)
 |_=>exact⟨s,h,rfl⟩
theorem jv(h:RV c a k x u)(e:∀b,x ≠ .tup b):∃d,RR c a k false x d∧u=x.val d:=by
 cases x with
 |tup b=>exact absurd rfl (e b)
 |_=>exact h
theorem B7(h:RV c a k (.data t E) u):∃b,t.rep.rel c b E∧u=t.rep.val b:=by
 obtain⟨b,d,e⟩:=h;exact⟨b,d,by rw[e,Cc]⟩
theorem lH(h:RV c a k (.data (.int P) β) u):u= .int P β∧eJ P β:=by
 obtain⟨e,b,rfl⟩:=h;obtain⟨rfl,d⟩:=b;exact⟨rfl,d⟩
theorem xY(h:RV c a k (.data .bool Y) u):u= .bool Y:=by
 obtain⟨d,b,rfl⟩:=h;have b:d=[.bool Y]:=b;subst b;rfl
theorem xL{s:List UInt8}(h:RV c a k (.data .str s) u):u= .string (Zt s)∧s.length≤maxLen:=by
 obtain⟨e,b,rfl⟩:=h;obtain⟨rfl,d⟩:=b;exact⟨rfl,d⟩
theorem iD(h:eJ P β):RV c a k (.data (.int P) β) (.int P β):=⟨[.int P β],⟨rfl,h⟩,rfl⟩
theorem ma:RV c a k (.data .bool Y) (.bool Y):=⟨[.bool Y],rfl,rfl⟩
theorem HW{l:Lo}{γ:Nat→Gh}{v:Zb}{s:List UInt8}(h:s.length≤maxLen):RV v γ l (.data .str s) (.string (Zt s)):=⟨[.string (Zt s)],⟨rfl,h⟩,rfl⟩
theorem I9(h:RV c a k (.data (.slice t) w) u):∃q n b,u= .slice q n b∧(Zy t.rep).rel c [.slice q n b] w:=by
 obtain⟨e,d,rfl⟩:=h;obtain⟨q,n,b,rfl⟩:=vV (A:=t.rep) d;exact⟨q,n,b,rfl,d⟩
theorem fW(h:RV c a k x u)(f:∀d,x ≠ .tup d)(hs:x.size=1)(e:x.isAgg=false):RR c a k false x [u]:=by
 obtain⟨g,b,rfl⟩:=jv h f;rw[Bp b hs e]at b;exact b
theorem ZzC(h:GN u=some x):RV c a k x u∧x.ok b:=by
 unfold GN at h;split at h
 ·cases h;exact⟨ma,trivial⟩
 ·split at h
  ·cases h;exact⟨iD (by assumption),trivial⟩
  ·cases h
 ·rename_i s;split at h
  ·cases h
   refine⟨?_,trivial⟩;have:=HW (v:=c) (γ:=a) (l:=k) (s:=s.data.toList) (by assumption)
   simpa [Zt] using this
  ·cases h
 ·cases h;exact⟨⟨[_],rfl,rfl⟩,trivial⟩
 ·cases h
theorem MP{N:Nat}(o:dZ N e j c b h r k m g a n d)(f:lR r G=some x):RV n a k x (m.eval G)∧x.ok b:=by
 cases G with
 |tmp t=>
  simp only[lR]at f;split at f
  ·rename_i i l;cases f;exact⟨o.fr t i l,(o.uf _ i l).1⟩
  ·cases f
 |const q=>exact ZzC f
 |func p=>cases f;exact⟨⟨[_],⟨[],rfl,rfl⟩,rfl⟩,trivial⟩
 |global p=>cases f
theorem W5{b:V→Ev p}(h:Zn f (fu G b) r k y):∃a,lR r G=some a∧Zn f (b a) r k y:=by
 cases G with
 |tmp t=>obtain⟨e,d,h⟩:=h;exact⟨e.x,by simp only[lR,d],h⟩
 |const c=>
  simp only[fu]at h;split at h
  ·rename_i G i;exact⟨G,i,h⟩
  ·exact h.elim
 |func g=>exact⟨_,rfl,h⟩
 |global g=>exact h.elim
theorem Z0{N:Nat}(v:dZ N e j c b h r k m g a n d){i:V→Ev p}(l:Zn q (fu G i) r k y):∃f,RV n a k f (m.eval G)∧f.ok b∧Zn q (i f) r k y:=by
 obtain⟨f,o,s⟩:=W5 l;obtain⟨t,u⟩:=MP v o;exact⟨f,t,u,s⟩
theorem oD{a:IntKind→Int→Ev p}(h:Zn f (l7 x a) r k y):∃b i,x= .data (.int b) i∧Zn f (a b i) r k y:=by
 unfold l7 at h;split at h
 ·exact⟨_,_,rfl,h⟩
 ·exact h.elim
theorem WE{a:Bool→Ev p}(h:Zn f (K4 x a) r k y):∃b,x= .data .bool b∧Zn f (a b) r k y:=by
 unfold K4 at h;split at h
 ·exact⟨_,rfl,h⟩
 ·exact h.elim
theorem PE{q:Bool}(a:o.underlying l=some .bool)(w:World):(Op.equal l (.bool Y) (.bool q)).run o w= .ok (Y==q) w:=by
 show(Op.equalIn (9999+1) l (.bool Y) (.bool q)).run o w=_;unfold Op.equalIn;simp[run_underlying a]
theorem XF{q:Bool}(a:o.underlying l=some .bool)(w:World):(binOp .eql l (.bool Y) (.bool q)).run o w= .ok (.bool (Y==q)) w:=by
 simp[binOp,PE a]
theorem V3{q:Bool}(a:o.underlying l=some .bool)(w:World):(binOp .neq l (.bool Y) (.bool q)).run o w= .ok (.bool (Y != q)) w:=by
 simp[binOp,PE a,bne]
theorem rt{P:Program}{U:Nat→Prop}{γ:Nat→Gh}{v:Zb}{c:BinOp}{b:IntKind}{j:Int}(t:TypeId)(d:eJ b β)(h:Zn f (yB c b β j R) r k i):∃x y,(∀w,(binOp c t (.int b β) (.int b j)).run P w= .ok y w)∧RV v γ k x y∧x.ok U∧Zn f (R x) r k i:=by
 unfold yB at h;split at h
 ·split at h
  ·obtain⟨z,a,h⟩:=h;exact⟨_,_,vc a,iD (jW a).2,trivial,h⟩
  ·exact⟨_,_,JU,iD (kI _ _),trivial,h⟩
 ·split at h
  ·obtain⟨z,a,h⟩:=h;exact⟨_,_,ko a,iD (jW a).2,trivial,h⟩
  ·exact⟨_,_,JL,iD (kI _ _),trivial,h⟩
 ·split at h
  ·obtain⟨z,a,h⟩:=h;exact⟨_,_,rx a,iD (jW a).2,trivial,h⟩
  ·exact⟨_,_,XL,iD (kI _ _),trivial,h⟩
 ·obtain⟨z,a,h⟩:=h;exact⟨_,_,SJ a,iD (QZ a),trivial,h⟩
 ·obtain⟨z,a,h⟩:=h;exact⟨_,_,TN a,iD (tU d a),trivial,h⟩
 ·exact⟨_,_,rv,iD (kI _ _),trivial,h⟩
 ·exact⟨_,_,yC,iD (kI _ _),trivial,h⟩
 ·exact⟨_,_,rE,iD (kI _ _),trivial,h⟩
 ·exact⟨_,_,m5,ma,trivial,h⟩
 ·exact⟨_,_,Tz,ma,trivial,h⟩
 ·exact⟨_,_,qW,ma,trivial,h⟩
 ·exact⟨_,_,Ms,ma,trivial,h⟩
 ·exact⟨_,_,xw,ma,trivial,h⟩
 ·exact⟨_,_,ry,ma,trivial,h⟩
 ·exact h.elim
theorem ro{N:Nat}{w:World}{O:List dY}(M:dZ N e j c b h r k m w a n O){d:Option Nat}{E:BinOp}{t' ty:TypeId}{pos:String}{aft:Array Edge}{g:Option (Nat×Bool)}{vx F:V}(B:RV n a k vx (m.eval G))(C:RV n a k F (m.eval ζ))(f:Zn q (yA o E l vx F R) r k i):∃z x,(execOp m.eval ⟨d,.binOp E l G ζ t',ty,pos,aft,g⟩).run o w= .ok (.value x) w∧RV n a k z x∧z.ok b∧Zn q (R z) r k i:=by
 obtain⟨P,hs,p,s⟩:=M.st.ev2 G ζ;unfold yA at f;split at f
 ·obtain⟨v,u⟩:=lH B;obtain⟨y,H⟩:=lH C;rw[v]at p;rw[y]at s;split at f
  ·obtain⟨z,t,f⟩:=f;exact⟨_,_,ZD hs p s (rC t),iD (VC u t),trivial,f⟩
  ·obtain⟨z,t,f⟩:=f;exact⟨_,_,ZD hs p s (rD t),iD (ZlB u t),trivial,f⟩
  ·split at f
   ·rename_i A;have A:=BX A;subst A;obtain⟨z,x,I,J,K,L⟩:=rt (P:=o) (v:=n) (γ:=a) (U:=b) l u f;exact⟨z,x,ZD hs p s I,J,K,L⟩
   ·exact f.elim
 ·have v:=xY B;have u:=xY C;rw[v]at p;rw[u]at s;split at f
  ·rename_i D;split at f
   ·exact⟨_,_,UG hs p s (XF D),ma,trivial,f⟩
   ·exact⟨_,_,UG hs p s (V3 D),ma,trivial,f⟩
   ·exact f.elim
  ·exact f.elim
 ·obtain⟨v,u⟩:=xL B;obtain⟨y,H⟩:=xL C;rw[v]at p;rw[y]at s;split at f
  ·obtain⟨z,t,f⟩:=f;exact⟨_,_,It hs p s (Rs t),HW (HC t),trivial,f⟩
  ·exact⟨_,_,It hs p s uA,ma,trivial,f⟩
  ·exact⟨_,_,It hs p s uC,ma,trivial,f⟩
  ·exact f.elim
 ·exact f.elim
theorem u9:∀{t:T},t.agg=false→t.n=1
 |.int _,_ |.bool,_ |.str,_ |.slice _,_ |.ptr _,_=>rfl
 |.leaf 0,_ |.leaf 1,_ |.leaf 5,_ |.leaf 6,_ |.leaf 7,_ |.leaf (_+9),_=>rfl
theorem m6:∀(g:Nat) {x z:V} {q n:Nat} {l:Bool},f8 g x q n l=some z→z.isAgg=false→z.size=1
 |0,_,_,_,_,_,h,_=>by cases h
 |g+1,x,z,q,n,l,h,p=>by
  have d:∀{y:V},(y.isAgg=false→y.size=1)→(match Nat.beq q 0,Nat.beq y.size n,rU y.isAgg l with
    |true,true,true=>some y
    |_,_,_=>match y with
     |.agg c=>f8 g c q n l
     |.data t x=>match kr t x with
      |some c=>f8 g c q n l
      |none=>none
     |_=>none)=some z→z.size=1:=by
   intro y s e;split at e
   ·cases e;exact s p
   ·split at e
    ·exact m6 g e p
    ·split at e
     ·exact m6 g e p
     ·cases e
    ·cases e
  cases x with
  |nl=>simp only[f8]at h;cases h
  |cons a b=>
   simp only[f8]at h;split at h
   ·exact m6 g h p
   ·split at h
    ·exact m6 g h p
    ·cases h
  |data t x=>exact d (y:=.data t x) (λh=>u9 h) h
  |agg c=>exact d (y:=.agg c) (λh=>by cases h) h
  |nilS=>exact d (y:=.nilS) (λ_=>rfl) h
  |own u=>exact d (y:=.own u) (λ_=>rfl) h
  |row u i m k t r=>exact d (y:=.row u i m k t r) (λ_=>rfl) h
  |ptr u o=>exact d (y:=.ptr u o) (λ_=>rfl) h
  |el u i k t x o=>exact d (y:=.el u i k t x o) (λ_=>rfl) h
  |rp u i m k t r=>exact d (y:=.rp u i m k t r) (λ_=>rfl) h
  |rel u i j m k t r x o=>exact d (y:=.rel u i j m k t r x o) (λ_=>rfl) h
  |vp t x o=>exact d (y:=.vp t x o) (λ_=>rfl) h
  |tup c=>exact d (y:=.tup c) (λ_=>rfl) h
  |fn f c=>exact d (y:=.fn f c) (λ_=>rfl) h
  |ifc f c=>exact d (y:=.ifc f c) (λ_=>rfl) h
  |undef=>exact d (y:=.undef) (λ_=>rfl) h
theorem Fi:∀{n:Nat} {x:(iz t n).den} {a:List Value},0<n→(iz t n).rep.rel c a x→t.rep.rels c a (jX t n x)∧(jX t n x).length=n
 |0,_,_,h,_=>by omega
 |1,x,a,_,h=>⟨Jd h,rfl⟩
 |2,x,a,_,h=>by
  obtain⟨b,d,e,f,g⟩:=h
  exact⟨⟨b,d,e,f,Jd g⟩,rfl⟩
 |k+3,x,a,_,h=>by
  obtain⟨b,d,e,f,g⟩:=h
  obtain⟨i,j⟩:=Fi (n:=k+2) (by omega) g
  exact⟨⟨b,d,e,f,i⟩,by show(jX t (k+2) x.2).length+1=_;rw[j]⟩
theorem Tx:∀{n:Nat} {x:(iz t n).den} {d:List Value},0<n→t.rep.rels c d (jX t n x)→(iz t n).rep.rel c d x
 |0,_,_,h,_=>by omega
 |1,x,d,_,h=>by
  obtain⟨e,f,rfl,b,a⟩:=h
  have a:f=[]:=a
  subst a
  rw[List.append_nil];exact b
 |2,x,d,_,h=>by
  obtain⟨e,f,b,a,j,l,rfl,g,i⟩:=h
  have i:l=[]:=i
  subst i
  rw[List.append_nil]at b
  exact⟨e,j,b,a,g⟩
 |k+3,x,d,_,h=>by
  obtain⟨e,f,b,a,g⟩:=h
  exact⟨e,f,b,a,Tx (n:=k+2) (by omega) g⟩
theorem SM{a:T}:∀{n:Nat} {x:(iz a n).den} {i:Nat} {y:a.den},i<n→jX a n (lJ a n x i y)=(jX a n x).set i y
 |0,_,_,_,h=>by omega
 |1,x,i,y,h=>by
  obtain rfl:i=0:=by omega
  rfl
 |2,x,i,y,h=>by
  rcases(show i=0∨i=1 by omega) with rfl |rfl <;> rfl
 |k+3,x,0,y,h=>rfl
 |k+3,x,i+1,y,h=>by
  have:=SM (a:=a) (n:=k+2) (x:=x.2) (i:=i) (y:=y) (by omega)
  show x.1 :: jX a (k+2) (lJ a (k+2) x.2 i y)=(x.1 :: jX a (k+2) x.2).set (i+1) y
  rw[this];rfl
theorem ZtE{y:p}(h:dX δ (f:Int)=some y):δ[f]?= some y:=by
 unfold dX at h;split at h
 ·simpa using h
 ·cases h
theorem xz(h:kW o l=some ε):eS o l ε.1 ε.2:=by
 unfold kW at h;split at h
 ·rename_i i d b a
  cases h
  refine⟨λw=>by simp[sizeOf,typeInfo,b],λw=>?_⟩
  cases d <;> simp[isAgg,run_underlying a,EA]
 ·cases h
theorem M7{q:TypeId×Nat}(h:CN o l=some q):jf o l q.1 q.2:=by
 unfold CN at h;split at h
 ·rename_i e a;split at h
  ·rename_i i b
   cases h
   exact⟨λw=>run_underlying a w,λw=>by simp[sizeOf,typeInfo,b]⟩
  ·cases h
 ·cases h
theorem dZ.loc{N:Nat}(l:dZ N e j c b h r k m g a n d)(f:eC k q=some Z):Z.k=q∧∃es,gQ n a k Z es∧∀x ∈ es,∃i:Nat,d[i]?= some x:=by
 obtain⟨E,s,hp⟩:=l.lr;obtain⟨es,u,o,v,p⟩:=xq s f;exact⟨(Zv f).2,es,o,λx t=>List.getElem?_of_mem ((hp.trans p).mem_iff.2 (List.mem_append_left _ t))⟩
theorem Du{N:Nat}(hs:St N j c [] d n m g)(b:kW o l=some ε)(i:gM g q I s)(t:RR n a k false x s)(v:x.size=ε.1)(p:x.isAgg=ε.2)(w:x.isAgg=false→x.size=1)(e:m.eval G= .pointer (some ⟨q,I,none⟩)):(execOp m.eval ⟨C,.load l G,F,O,J,B⟩).run o g= .ok (.value (x.val s)) g:=by
 obtain⟨z,r,h⟩:=hs.ev1 G;rw[e]at h;have b:=xz b;have y:=o6 t
 cases f:x.isAgg with
 |true=>
  rw[←p,f,←v,←y]at b;have:=PF (d:=C) (ty:=F) (pos:=O) (aft:=J) (g:=B) r h b rfl i;rw[this];unfold V.val;rw[f]
 |false=>
  have u:=Bp t (w f) f;rw[u]at i;rw[←p,f]at b;exact jb (d:=C) (ty:=F) (pos:=O) (aft:=J) (g:=B) r h b i
theorem CX:∀{rows:List (Option Nat×Nat)} {m:List (List p)} {i:Nat} {b:Option Nat×Nat} {r:List p},rows[i]?= some b→m[i]?= some r→(Zq rows m)[i]?= some (.slice (eF b.1) r.length b.2)
 |[],_,_,_,_,h,_=>by simp at h
 |_ :: _,[],_,_,_,_,h=>by simp at h
 |b :: c,r :: d,0,_,_,h,a=>by simp at h a;subst h a;rfl
 |b :: c,r :: d,i+1,_,_,h,a=>by
  simp only[List.getElem?_cons_succ]at h a
  have:=CX (rows:=c) (m:=d) (i:=i) h a
  simpa [Zq] using this
theorem oG:∀{a:List (Option Nat×Nat)} {m:List (List p)},a.length=m.length→(Zq a m).length=m.length
 |[],[],_=>rfl
 |_ :: _,_ :: _,h=>by simp[Zq];exact oG (by simpa using h)
 |[],_ :: _,h=>by cases h
 |_ :: _,[],h=>by cases h
theorem vU:∀{f:List (Option Nat×Nat)} {m:List (List t.den)} {es:List dY} {i:Nat} {r:List t.den},gk c l t f m es→m[i]?= some r→∃p a,f[i]?= some p∧t.rep.rels c a r∧.own p.1 l t.n r.length p.2 a ∈ es
 |[],[],_,_,_,_,h=>by simp at h
 |_ :: _,_ :: _,_,0,_,⟨a,j,d,b,e⟩,h=>by simp at h;subst h b;exact⟨_,a,rfl,d,by simp⟩
 |_ :: _,_ :: _,_,i+1,_,⟨a,j,d,b,e⟩,h=>by
  simp at h
  obtain⟨p,g,n,o,q⟩:=vU e h
  subst b
  exact⟨p,g,by simpa using n,o,by simp[q]⟩
 |[],_ :: _,_,_,_,k,_=>k.elim
 |_ :: _,[],_,_,_,k,_=>k.elim
theorem O'(h:gM g f q s)(m:Nat)(i:I+m≤s.length):gM g f (q+I) ((s.drop I).take m):=by
 obtain⟨a,T,b,c,d⟩:=h;refine⟨a,T,b,c,?_⟩;have e:((s.drop I).take m).length=m:=by simp;omega
 rw[e];have:((a.toList.drop q).take s.length)=s:=d
 conv=>rhs;rw[←this]
 rw[List.drop_take,List.drop_drop,List.take_take];congr 1;omega
theorem zy{N:Nat}{w:World}{ay:List dY}(C:dZ N e j c b h r k m w a n ay){d:Option Nat}{ty:TypeId}{pos:String}{aft:Array Edge}{g:Option (Nat×Bool)}(hp:RV n a k x (m.eval G))(hk:x.ok b)(f:Zn q (Nz o l x R) r k i):∃z y,(execOp m.eval ⟨d,.load l G,ty,pos,aft,g⟩).run o w= .ok (.value y) w∧RV n a k z y∧z.ok b∧Zn q (R z) r k i:=by
 unfold Nz at f;split at f
 ·exact f.elim
 ·rename_i v hq;split at f
  · -- m variable
   rename_i u J;obtain⟨p,O,f⟩:=f;obtain⟨y,a3,_,E⟩:=fW hp (λ_ p=>by cases p) rfl rfl
   cases a3
   have E:=E p O;obtain⟨F,st,L⟩:=p;obtain⟨B,es,X,a0⟩:=C.loc O
   cases L with
   |box aa A=>
    simp only at f;obtain⟨a1,K,M,W,g3,rfl⟩:=X;obtain⟨b',g4,g5⟩:=E;have B:F=u:=B;subst B;have M:a F= .box a1:=M;rw[M]at g4;cases g4;split at f
    ·rename_i z H;have hc:A.ok b:=(C.ul _ (Zv O).1).2.2;obtain⟨D,S,k3,k4,Y⟩:=m7 FU H W hc;obtain⟨I,hi⟩:=a0 _ (List.mem_singleton.2 rfl);have P:((K.drop J).take v.1).length=v.1:=by simp;omega
     have hw:=C.st.box hi J ((K.drop J).take v.1) (by rw[P]);exact⟨z,_,Du C.st hq hw D k3 k4 (m6 FU H) g5,km D (λA p=>by subst p;exact D),S,f⟩
    ·exact f.elim
   |own _ _ _ _=>exact f.elim
   |mid _ _ _ _ _ _=>exact f.elim
   |mat _ _ _ _ _=>exact f.elim
  · -- an element
   rename_i u I cv p x0 J;obtain⟨en,O,f⟩:=f;obtain⟨y,a3,_,_,E⟩:=fW hp (λ_ p=>by cases p) rfl rfl
   cases a3
   have E:=E en O;obtain⟨F,st,L⟩:=en;obtain⟨B,es,X,a0⟩:=C.loc O
   cases L with
   |own aa s xs fz=>
    simp only at f;obtain⟨a1,ab,M,W,g3,g4⟩:=E;have B:F=u:=B;subst B;split at f
    ·rename_i am;obtain⟨ys,c1,U⟩:=g4 (eH am);obtain⟨c3,c4⟩:=fK c1
     cases c3;cases c4
     split at f
     ·rename_i z H;have a8:∀A,p.rep.rel n A x0→RR n a k false z ((A.drop J).take v.1)∧z.ok b∧z.size=v.1∧z.isAgg=v.2∧J+v.1≤A.length:=λA hc=>m7 FU H (x:=.data p x0) hc trivial;have al:∃A,p.rep.rel n A x0∧gM w a1 (0+I*p.n+J) ((A.drop J).take v.1):=by
       cases fz with
       |false=>
        obtain⟨ob,a2,K,t,Z,rfl⟩:=X;have t:a F= .own ob a2:=t;rw[M]at t;cases t;obtain⟨a7,hj⟩:=a0 _ (List.mem_singleton.2 rfl);have Q:=hO Z U;rw[ZK]at Q;refine⟨_,Q,?_⟩;obtain⟨_,_,_,_,Y⟩:=a8 _ Q;have hl:=ee.len _ Q;rw[ZK]at hl;have P:((((K.drop (I*p.n)).take p.n).drop J).take v.1).length=v.1:=by
         simp only[List.length_take,List.length_drop]at Y ⊢;omega
        exact pZ C.st hj rfl g3 J _ (by rw[P]) (by rw[P];omega)
       |true=>
        obtain⟨ob,a2,t,Z,_⟩:=X;have t:a F= .own ob a2:=t;rw[M]at t;cases t;obtain⟨_,b2,o2,ah,e2,h2,h3⟩:=ly Z U
        cases e2
        refine⟨ah,h3,?_⟩;obtain⟨_,_,_,_,Y⟩:=a8 _ h3;rw[ZK]at h2;exact O' (C.st.view h2) v.1 Y
      obtain⟨A,aj,ak⟩:=al;obtain⟨D,S,k3,k4,Y⟩:=a8 A aj;exact⟨z,_,Du C.st hq ak D k3 k4 (m6 FU H) W,km D (λA p=>by subst p;exact D),S,f⟩
     ·exact f.elim
    ·exact f.elim
   |box b5 c1=>
    obtain⟨a1,M,W⟩:=E;have B:F=u:=B;subst B
    cases c1 with
    |data t' w'=>
     simp only at f;split at f
     ·rename_i a4 e' hu;split at f
      ·rename_i w2 av ho ap;have ho:=eH ho;subst ho;obtain⟨c3,c4⟩:=fK av;subst c3;subst c4;obtain⟨y2,a6,f⟩:=f;have a6:dX (jX p a4 w') (I:Int)=some y2:=a6
       dsimp only at f
       split at f
       ·rename_i z H;obtain⟨b',K,t,Z,q3,rfl⟩:=X;have t:a F= .box b':=t;rw[M]at t;cases t;obtain⟨jj,hj⟩:=a0 _ (List.mem_singleton.2 rfl);obtain⟨D,S⟩:=Fi (lB ap) (show(iz p a4).rep.rel n K w' from Z);have hx:=ZtE a6;have Q:=hO D hx;rw[ZK]at Q;obtain⟨p1,p2,p3,p4,p5⟩:=m7 FU (γ:=a) (l:=k) (U:=b) H (x:=.data p y2) Q trivial;have ad:=kK D;rw[ZK,S]at ad;have hi:I<a4:=by rw[←S];exact(List.getElem?_eq_some_iff.1 hx).1
        have b0:I*p.n+p.n≤K.length:=by rw[ad,←Nat.succ_mul];exact mR _ hi
        rw[List.drop_zero,List.take_take]at p1;have P:((K.drop (I*p.n)).take (min v.1 p.n)).length=v.1:=by
         simp only[List.length_take,List.length_drop]at p5 ⊢;omega
        have aq:min v.1 p.n=v.1:=by
         simp only[List.length_take,List.length_drop]at p5 P;omega
        rw[aq]at p1 P;have hw:=C.st.box hj (0+I*p.n+0) ((K.drop (I*p.n)).take v.1) (by rw[P,Nat.zero_add,Nat.add_zero]);exact⟨z,_,Du C.st hq hw p1 p3 p4 (m6 FU H) W,km p1 (λA p=>by subst p;exact p1),p2,f⟩
       ·exact f.elim
      ·exact f.elim
     ·exact f.elim
    |_=>exact f.elim
   |mid _ _ _ _ _ _=>exact f.elim
   |mat _ _ _ _ _=>exact f.elim
  · -- behind m pointer to what is shown
   rename_i p x0 J;obtain⟨K,h1,h2⟩:=jv hp (λ_ p=>by cases p);obtain⟨a1,b4,A,hA,hR,rfl⟩:=h1;split at f
   ·rename_i z H;obtain⟨D,S,k3,k4,Y⟩:=m7 FU H (x:=.data p x0) (γ:=a) (l:=k) (U:=b) hR trivial;exact⟨z,_,Du C.st hq (O' (C.st.view hA) v.1 Y) D k3 k4 (m6 FU H) h2,km D (λA p=>by subst p;exact D),S,f⟩
   ·exact f.elim
  · -- m row's header
   rename_i u I hv cv p a5;obtain⟨en,O,f⟩:=f;obtain⟨y,a3,_,E⟩:=fW hp (λ_ p=>by cases p) rfl rfl
   cases a3
   have E:=E en O;obtain⟨F,st,L⟩:=en;obtain⟨B,es,X,a0⟩:=C.loc O
   cases L with
   |mat aa ax s a4 af=>
    simp only at f;have B:F=u:=B;subst B;split at f
    ·rename_i b1 b2 b3;have b1:=eH b1;have b2:=eH b2;subst b1 b2;obtain⟨a1,ab,ag,M,W,g3,g4⟩:=E;obtain⟨m',c1,U⟩:=g4 rfl;obtain⟨c3,c4⟩:=fK c1
     cases c3;cases c4
     obtain⟨ob,a2,a9,ai,t,Z,rfl⟩:=X;have t:a F= .mat ob a2 a9:=t;rw[M]at t;cases t;obtain⟨x,K,r1,r2,r3⟩:=vU Z U;obtain⟨a7,hj⟩:=a0 _ List.mem_cons_self;have hh:=CX r1 U;have hw:gM w a1 (0+I*1) [.slice (eF x.1) a5.length x.2]:=by
      have hx:((Zq ag a4).drop (I*1)).take 1=[.slice (eF x.1) a5.length x.2]:=by
       have ao:=(List.getElem?_eq_some_iff.1 hh).1;rw[Nat.mul_one,List.drop_eq_getElem_cons ao];simp[(List.getElem?_eq_some_iff.1 hh).2]
      have:=pZ C.st hj hx g3 0 [.slice (eF x.1) a5.length x.2] rfl (by simp)
      simpa using this
     have ar:RR n a k false (.row F I af st p a5) [.slice (eF x.1) a5.length x.2]:=by
      refine⟨_,rfl,rfl,λe' ae=>?_⟩;rw[O]at ae;cases ae;exact λ_=>⟨_,_,_,x.1,x.2,M,r1,rfl,⟨a5,U,rfl⟩,λ_=>⟨a4,c1,U⟩⟩
     obtain⟨σ,au,e1⟩:=C.st.ev1 G;rw[W]at e1;have ht:=xz hq;rw[b3]at ht;refine⟨_,_,jb au e1 ht hw,km ar (λA p=>by cases p),⟨hk.1,hk.2.1,hk.2.2⟩,f⟩
    ·exact f.elim
   |box _ _=>exact f.elim
   |mid _ _ _ _ _ _=>exact f.elim
   |own _ _ _ _=>exact f.elim
  · -- an element of m row
   rename_i u I a7 hv cv p a5 x0 J;obtain⟨en,O,f⟩:=f;obtain⟨y,a3,_,E⟩:=fW hp (λ_ p=>by cases p) rfl rfl
   cases a3
   have E:=E en O;obtain⟨F,st,L⟩:=en;obtain⟨B,es,X,a0⟩:=C.loc O
   cases L with
   |mat aa ax s a4 af=>
    simp only at f;have B:F=u:=B;subst B;split at f
    ·rename_i b1 b2;have b1:=eH b1;have b2:=eH b2;subst b1 b2;split at f
     ·rename_i z H;obtain⟨ob,ab,ag,bi,az,M,W,g3,g4,g5,g6⟩:=E rfl;obtain⟨⟨m',c1,U⟩,cx⟩:=g6 rfl;obtain⟨c3,c4⟩:=fK c1
      cases c3;cases c4
      obtain⟨aw,a2,a9,ai,t,Z,rfl⟩:=X;have t:a F= .mat aw a2 a9:=t;rw[M]at t;cases t;obtain⟨x,K,r1,r2,r3⟩:=vU Z U;rw[W]at r1;cases r1;obtain⟨jj,hj⟩:=a0 _ (List.mem_cons_of_mem _ r3);have Q:=hO r2 cx;rw[ZK]at Q;obtain⟨D,S,k3,k4,Y⟩:=m7 FU H (x:=.data p x0) (γ:=a) (l:=k) (U:=b) Q trivial;have hl:=ee.len _ Q;rw[ZK]at hl;have P:((((K.drop (a7*p.n)).take p.n).drop J).take v.1).length=v.1:=by
       simp only[List.length_take,List.length_drop]at Y ⊢;omega
      have hw:=pZ C.st hj rfl g5 J _ (by rw[P]) (by rw[P];omega);exact⟨z,_,Du C.st hq hw D k3 k4 (m6 FU H) g3,km D (λA p=>by subst p;exact D),S,f⟩
     ·exact f.elim
    ·exact f.elim
   |box _ _=>exact f.elim
   |mid _ _ _ _ _ _=>exact f.elim
   |own _ _ _ _=>exact f.elim
  ·exact f.elim
theorem F4{i:TypeInfo}(h:o.info? l=some i)(w:World):(sizeOf l).run o w= .ok i.size w:=by simp[sizeOf,typeInfo,h]
theorem V6(k:IntKind):wH k k=true:=by cases k <;> rfl
theorem Bw:∀t:T,T.beq t t=true
 |.int k=>V6 k
 |.bool |.str=>rfl
 |.one a=>Bw a
 |.slice a=>Bw a
 |.ptr a=>Bw a
 |.pair a b=>by simp only[T.beq,Bw a,Bw b]
 |.leaf i=>by simp[T.beq]
theorem CH:T.cast t t E=some E:=by
 unfold T.cast;have:∀(b:Bool) (a:T.beq t t=b),b=true→T.castB t t b a E=some E:=by
  intro b a e;subst e;rfl
 exact this _ rfl (Bw t)
theorem rY(h:yZ o l f=some q):NW o l f q:=by
 unfold yZ at h;split at h
 ·rename_i c k;split at h
  ·rename_i a j;split at h
   ·rename_i i m;split at h
    ·rename_i g
     cases h
     intro b p w;have d:c[f]?= some a:=by rw[←Array.getElem?_toList];exact j
     have e:¬i.size=0:=by
      have n:1≤i.size:=lB g;omega
     simp[Instr.fieldAt,run_underlying k,d,Instr.sureAddr,fieldPlace,F4 m,e,gG]
    ·cases h
   ·cases h
  ·cases h
 ·cases h
theorem qw:plain (.pointer (some ⟨f,q,none⟩))=true:=rfl
theorem Nh{I:Ev p}(hp:RV c a k x u)(F:x.ok b)(h:Zn f (nY x I) r k y):
  Zn f I r k y∧∃d o,u= .pointer (some ⟨d,o,none⟩)∧∀w z,shift x w=some z→RV c a k z (.pointer (some ⟨d,o+w,none⟩))∧z.ok b:=by
 unfold nY at h;split at h
 ·rename_i N o;obtain⟨l,n,h⟩:=h;obtain⟨u,B,_,g⟩:=fW hp (λ_ e=>by cases e) rfl rfl
  cases B
  have g:=g l n;obtain⟨J,M,L⟩:=l
  cases L with
  |box _ _=>
   obtain⟨d,A,rfl⟩:=g;refine⟨h,d,o,rfl,λw z v=>?_⟩
   cases v
   refine⟨⟨[_],⟨_,rfl,qw,λH q=>?_⟩,rfl⟩,F⟩;rw[n]at q;cases q;exact⟨d,A,rfl⟩
  |own _ _ _ _=>exact h.elim
  |mid _ _ _ _ _ _=>exact h.elim
  |mat _ _ _ _ _=>exact h.elim
 ·rename_i t O o;obtain⟨cs,Y,Z⟩:=jv hp (λ_ e=>by cases e);obtain⟨d,K,P,hA,hR,rfl⟩:=Y;refine⟨h,d,K+o,Z,λw z v=>?_⟩
  cases v
  exact⟨⟨[_],⟨d,K,P,hA,hR,by rw[Nat.add_assoc]⟩,rfl⟩,trivial⟩
 ·rename_i N i R t O o;obtain⟨l,n,h⟩:=h;obtain⟨u,B,_,a0,g⟩:=fW hp (λ_ e=>by cases e) rfl rfl
  cases B
  have g:=g l n;obtain⟨J,M,L⟩:=l
  cases L with
  |own _ s xs fz=>
   obtain⟨d,C,A,rfl,U,D⟩:=g;refine⟨h,d,0+i*s.n+o,rfl,λw z v=>?_⟩
   cases v
   refine⟨⟨[_],⟨_,rfl,qw,a0,λH q=>?_⟩,rfl⟩,F⟩;rw[n]at q;cases q;exact⟨d,C,A,by rw[Nat.add_assoc (0+i*s.n)],U,D⟩
  |box _ _=>exact h.elim
  |mid _ _ _ _ _ _=>exact h.elim
  |mat _ _ _ _ _=>exact h.elim
 ·rename_i N i j hv R t a3 O o;obtain⟨l,n,h⟩:=h;obtain⟨u,B,_,g⟩:=fW hp (λ_ e=>by cases e) rfl rfl
  cases B
  have g:=g l n;obtain⟨J,M,L⟩:=l
  cases L with
  |mat _ _ s m a2=>
   simp only at h;split at h
   ·rename_i E;have E:=eH E;subst E;obtain⟨ob,C,a1,G,Q,A,S,rfl,D,W,X⟩:=g rfl;refine⟨h,G,0+j*s.n+o,rfl,λw z v=>?_⟩
    cases v
    refine⟨⟨[_],⟨_,rfl,qw,λH q=>?_⟩,rfl⟩,F⟩;rw[n]at q;cases q;exact λ_=>⟨ob,C,a1,G,Q,A,S,by rw[Nat.add_assoc (0+j*s.n)],D,W,X⟩
   ·exact h.elim
  |box _ _=>exact h.elim
  |mid _ _ _ _ _ _=>exact h.elim
  |own _ _ _ _=>exact h.elim
 ·exact h.elim
theorem rZ{N:Nat}{w:World}{D:List dY}{d:Option Nat}{ty:TypeId}{pos:String}{aft:Array Edge}{g:Option (Nat×Bool)}(A:dZ N e j c b h r k m w a n D)(hp:RV n a k x (m.eval G))(u:x.ok b)(f:Zn q (zd o F I x R) r k i):∃z y,(execOp m.eval ⟨d,.fieldAddr F G I,ty,pos,aft,g⟩).run o w= .ok (.value y) w∧RV n a k z y∧z.ok b∧Zn q (R z) r k i:=by
 unfold zd at f;split at f
 ·rename_i J v;split at f
  ·rename_i z B;obtain⟨f,E,H,p,hs⟩:=Nh hp u f;obtain⟨s,t⟩:=hs _ _ B;obtain⟨K,C,l⟩:=A.st.ev1 G;rw[p]at l;exact⟨z,_,WR C l (rY v),s,t,f⟩
  ·exact f.elim
 ·exact f.elim
theorem sj{N:Nat}(v:dZ N e j c b h r k m g a n d)(u:∀p,b p→h p)(H:h q)(S:K=⟨C,.indexAddr F G ζ,l,O,J,B⟩)(I:∀p,K.dst=some p→p<N)(hp:RV n a k x (m.eval G))(R:x.ok b)(M:m.eval ζ= .int P β)(f:Zn q (Nx o K F x β) r k i):Eh o N e j c h K m g i:=by
 unfold Nx at f;split at f
 ·rename_i a0 w L;split at f
  ·rename_i X Q A D;split at f
   ·rename_i z U;obtain⟨f,a1,o',y,hs⟩:=Nh hp R f;obtain⟨Y,Z⟩:=hs _ _ U;obtain⟨σ,W,s,t⟩:=v.st.ev2 G ζ;rw[y]at s;rw[M]at t;have E:Do o F a0 X.size:=⟨w,λg=>run_underlying L g,λg=>F4 Q g⟩;subst S;exact qP v u (ZyD W E s t (of_decide_eq_true A) (of_decide_eq_true D) _ rfl) I H Y (V.ok.mono u Z) f
   ·exact f.elim
  ·exact f.elim
 ·exact f.elim
theorem sn{N:Nat}(v:dZ N e j c b h r k m g a n d)(A:∀af,b af→h af)(hX:h q)(ho:K=⟨C,.indexAddr F G ζ,l,O,J,B⟩)(hd:∀af,K.dst=some af→af<N)(hp:RV n a k x (m.eval G))(hk:x.ok b)(hi:m.eval ζ= .int P β)(f:Zn q (IG o K F x β) r k i):Eh o N e j c h K m g i:=by
 unfold IG at f;split at f
 ·exact sj v A hX ho hd hp hk hi f
 ·rename_i ay hq;obtain⟨σ,a6,U,e2⟩:=v.st.ev2 G ζ;rw[hi]at e2;have a5:=M7 hq;split at f
  ·rename_i u;obtain⟨en,D,f⟩:=f;obtain⟨y,aa,_,E⟩:=fW hp (λ_ ai=>by cases ai) rfl rfl;have aa:m.eval G=y:=(List.cons.inj aa).1;rw[aa]at U;have E:=E en D;obtain⟨S,st,L⟩:=en;obtain⟨a9,es,a4,ae⟩:=v.loc D;have a9:S=u:=a9;subst a9;have ak:b S:=hk
   cases L with
   |own am s xs fz=>
    simp only at f;split at f
    ·rename_i t;have t:=eH t;obtain⟨H,M,f⟩:=f;obtain⟨Q,z,R,X⟩:=Zr M;obtain⟨ob,a7,I,rfl⟩:=E;have ar:∃a3,ob=some a3:=by
      cases fz with
      |false=>
       obtain⟨a2,a0,cs,p,Y,rfl⟩:=a4;have p:a S= .own a2 a0:=p;rw[I]at p;cases p;obtain⟨jj,hj⟩:=ae _ (List.mem_singleton.2 rfl);exact mr v.st hj (by omega)
      |true=>
       obtain⟨a2,a0,p,Y,_⟩:=a4;have p:a S= .own a2 a0:=p;rw[I]at p;cases p;obtain⟨_,Z,o2,ad,e2,h2,h3⟩:=ly Y z
       cases ob with
       |none=>cases e2
       |some a3=>exact⟨a3,rfl⟩
     obtain⟨a3,rfl⟩:=ar;have aq:∃an,s.rep.rel n an H:=by
      cases fz with
      |false=>obtain⟨_,_,cs,_,Y,_⟩:=a4;exact⟨_,hO Y z⟩
      |true=>obtain⟨_,_,_,Y,_⟩:=a4;obtain⟨_,_,_,cs,_,_,h3⟩:=ly Y z;exact⟨cs,h3⟩
     subst ho;have w:=gB (d:=C) (ty:=l) (pos:=O) (aft:=J) (g:=B) a6 U e2 a5 Q (by exact R);rw[t]at w;refine qP v A w hd hX (x:=.el S β.toNat st s H 0) ⟨[_],⟨_,rfl,qw,aq,λe' W=>?_⟩,rfl⟩ ⟨A _ ak,(v.ul _ (Zv D).1).2.1⟩ f;rw[D]at W;cases W;exact⟨a3,a7,I,rfl,X,λ_=>⟨xs,by unfold mJ;exact CH,z⟩⟩
    ·exact f.elim
   |mat am ap s a1 hv=>
    simp only at f;split at f
    ·rename_i t;have t:=eH t;obtain⟨H,M,f⟩:=f;obtain⟨Q,z,R,X⟩:=Zr M;obtain⟨ob,a7,ag,I,rfl⟩:=E;obtain⟨a2,a0,ab,aj,p,Y,rfl⟩:=a4;have p:a S= .mat a2 a0 ab:=p;rw[I]at p;cases p;obtain⟨jj,hj⟩:=ae _ List.mem_cons_self;obtain⟨a3,rfl⟩:=mr v.st hj (by omega);subst ho;have w:=gB (d:=C) (ty:=l) (pos:=O) (aft:=J) (g:=B) a6 U e2 a5 Q (by exact R);rw[t]at w;refine qP v A w hd hX (x:=.rp S β.toNat hv st s H) ⟨[_],⟨_,rfl,qw,λe' W=>?_⟩,rfl⟩ ⟨A _ ak,?_,(v.ul _ (Zv D).1).2.1⟩ f
     ·rw[D]at W;cases W;exact⟨a3,a7,ag,I,rfl,X,λ_=>⟨a1,by unfold jz;exact CH,z⟩⟩
     ·exact(v.ul _ (Zv D).1).2.2
    ·exact f.elim
   |mid am ap s a1 hv az=>
    simp only at f;split at f
    ·rename_i t;have t:=eH t;obtain⟨H,M,f⟩:=f;obtain⟨Q,z,R,X⟩:=Zr M;obtain⟨ob,a7,ag,I,rfl⟩:=E;obtain⟨a2,a0,ab,aj,ax,aw,p,Y,q3,rfl⟩:=a4;have p:a S= .mat a2 a0 ab:=p;rw[I]at p;cases p;obtain⟨jj,hj⟩:=ae _ List.mem_cons_self;obtain⟨a3,rfl⟩:=mr v.st hj (by omega);subst ho;have w:=gB (d:=C) (ty:=l) (pos:=O) (aft:=J) (g:=B) a6 U e2 a5 Q (by exact R);rw[t]at w;refine qP v A w hd hX (x:=.rp S β.toNat hv st s H) ⟨[_],⟨_,rfl,qw,λe' W=>?_⟩,rfl⟩ ⟨A _ ak,?_,(v.ul _ (Zv D).1).2.1⟩ f
     ·rw[D]at W;cases W;exact⟨a3,a7,ag,I,rfl,X,λ_=>⟨a1,by unfold jz;exact CH,z⟩⟩
     ·exact(v.ul _ (Zv D).1).2.2
    ·exact f.elim
   |box _ _=>exact f.elim
  ·rename_i s xs;obtain⟨qa,a1,an,E,hR⟩:=I9 hp;rw[E]at U;split at f
   ·rename_i t;have t:=eH t;obtain⟨H,M,f⟩:=f;obtain⟨Q,z,R,X⟩:=Zr M;obtain⟨e3,Z,o2,ad,rfl,h2,h3⟩:=ly hR z;subst ho;have w:=gB (d:=C) (ty:=l) (pos:=O) (aft:=J) (g:=B) a6 U e2 a5 Q (by rw[e3];exact R);rw[t]at w;rw[ZK]at h2;exact qP v A w hd hX (x:=.vp s H 0) ⟨[_],⟨Z,_,ad,h2,h3,rfl⟩,rfl⟩ trivial f
   ·exact f.elim
  ·rename_i a1;obtain⟨cs,h1,h2⟩:=B7 hp;have h1:Zx.rel n cs a1:=h1;obtain⟨qa,n',k',rfl⟩:=ig h1;have E:m.eval G= .slice qa n' k':=h2;rw[E]at U;split at f
   ·rename_i t;have t:=eH t;obtain⟨H,M,f⟩:=f;obtain⟨Q,z,R,X⟩:=Zr M;obtain⟨e3,Z,o2,ad,rfl,h2,h3⟩:=ly (A:=Zd .u64) h1 z;subst ho;have w:=gB (d:=C) (ty:=l) (pos:=O) (aft:=J) (g:=B) a6 U e2 a5 Q (by rw[e3];exact R);rw[t]at w;exact qP v A w hd hX (x:=.vp (.int .u64) H 0) ⟨[_],⟨Z,_,ad,h2,h3,rfl⟩,rfl⟩ trivial f
   ·exact f.elim
  ·rename_i a1;obtain⟨cs,h1,h2⟩:=B7 hp;have h1:iF.rel n cs a1:=h1;obtain⟨qa,n',k',rfl⟩:=oV h1;have E:m.eval G= .slice qa n' k':=h2;rw[E]at U;split at f
   ·rename_i t;have t:=eH t;obtain⟨H,M,f⟩:=f;obtain⟨Q,z,R,X⟩:=Zr M;obtain⟨e3,Z,o2,ad,rfl,h2,h3⟩:=ly (A:=Zd .u32) h1 z;subst ho;have w:=gB (d:=C) (ty:=l) (pos:=O) (aft:=J) (g:=B) a6 U e2 a5 Q (by rw[e3];exact R);rw[t]at w;exact qP v A w hd hX (x:=.vp (.int .u32) H 0) ⟨[_],⟨Z,_,ad,h2,h3,rfl⟩,rfl⟩ trivial f
   ·exact f.elim
  ·rename_i u i' hv cv s av;obtain⟨en,D,f⟩:=f;obtain⟨y,aa,_,E⟩:=fW hp (λ_ ai=>by cases ai) rfl rfl;have aa:m.eval G=y:=(List.cons.inj aa).1;rw[aa]at U;have E:=E en D;obtain⟨S,st,L⟩:=en;obtain⟨a9,es,a4,ae⟩:=v.loc D;have a9:S=u:=a9;subst a9
   cases L with
   |mat am ap s' a1 ao=>
    simp only at f;split at f
    ·rename_i b1 Z b3;have b1:=eH b1;have Z:=eH Z;have b3:=eH b3;subst b1 Z;obtain⟨H,M,f⟩:=f;obtain⟨Q,z,R,X⟩:=Zr M;obtain⟨ob,a7,ag,al,ah,I,g2,rfl,g4,g5⟩:=E rfl;obtain⟨m',c1,c2⟩:=g5 rfl;obtain⟨c3,c4⟩:=fK c1
     cases c3;cases c4
     obtain⟨a2,a0,ab,aj,p,Y,rfl⟩:=a4;have p:a S= .mat a2 a0 ab:=p;rw[I]at p;cases p;obtain⟨p',cs,r1,r2,r3⟩:=vU Y c2;rw[g2]at r1;cases r1;obtain⟨jj,hj⟩:=ae _ (List.mem_cons_of_mem _ r3);obtain⟨bi,a8⟩:=mr v.st hj (by omega);have a8:al=some bi:=a8;subst a8;subst ho;have w:=gB (d:=C) (ty:=l) (pos:=O) (aft:=J) (g:=B) a6 U e2 a5 Q R;rw[b3]at w;refine qP v A w hd hX (x:=.rel S i' β.toNat ao st s av H 0) ⟨[_],⟨_,rfl,qw,λe' W=>?_⟩,rfl⟩ ⟨A _ hk.1,A _ hk.2.1,A _ hk.2.2⟩ f;rw[D]at W;cases W;exact λ_=>⟨_,_,_,bi,ah,I,g2,rfl,g4,X,λ_=>⟨⟨a1,c1,c2⟩,z⟩⟩
    ·rename_i b1 Z b3;have b1:=eH b1;have b3:=eH b3;subst b1;split at f
     ·rename_i m' c1;obtain⟨c3,c4⟩:=fK c1
      cases c3;cases c4
      obtain⟨r',au,f⟩:=f;obtain⟨_,i1,_,_⟩:=Zr au;rw[tN]at i1;obtain⟨H,M,f⟩:=f;obtain⟨Q,z,R,X⟩:=Zr M;obtain⟨ob,a7,ag,al,ah,I,g2,rfl,⟨ri,g4,g6⟩,g5⟩:=E rfl;rw[i1]at g4;cases g4;obtain⟨a2,a0,ab,aj,p,Y,rfl⟩:=a4;have p:a S= .mat a2 a0 ab:=p;rw[I]at p;cases p;obtain⟨p',cs,r1,r2,r3⟩:=vU Y i1;rw[g2]at r1;cases r1;obtain⟨jj,hj⟩:=ae _ (List.mem_cons_of_mem _ r3);obtain⟨bi,a8⟩:=mr v.st hj (by omega);have a8:al=some bi:=a8;subst a8;subst ho;rw[←g6]at U;have w:=gB (d:=C) (ty:=l) (pos:=O) (aft:=J) (g:=B) a6 U e2 a5 Q R;rw[b3]at w;refine qP v A w hd hX (x:=.rel S i' β.toNat ao st _ r' H 0) ⟨[_],⟨_,rfl,qw,λe' W=>?_⟩,rfl⟩ ⟨A _ hk.1,A _ hk.2.1,(v.ul _ (Zv D).1).2.1⟩ f;rw[D]at W;cases W;exact λ_=>⟨_,_,_,bi,ah,I,g2,rfl,⟨r',i1,rfl⟩,X,λ_=>⟨⟨a1,c1,i1⟩,z⟩⟩
     ·exact f.elim
    ·exact f.elim
   |box _ _=>exact f.elim
   |mid _ _ _ _ _ _=>exact f.elim
   |own _ _ _ _=>exact f.elim
  ·exact f.elim
theorem zv{N:Nat}(z:dZ N e j c b h r k m g a n d)(s:∀f,b f→h f)(t:h q)(y:K=⟨C,.indexAddr F G ζ,l,O,J,B⟩)(u:∀f,K.dst=some f→f<N)(hp:RV n a k x (m.eval G))(w:x.ok b)(v:m.eval ζ= .int P β)(p:Zn q (IG o K F x β) r k i):gP o N e j c h K m g i:=(sn z s t y u hp w v p).good
theorem sN{N:Nat}{w:World}{a8:List dY}{d:Option Nat}{ty:TypeId}{pos:String}{aft:Array Edge}{g:Option (Nat×Bool)}(K:dZ N e j c b h r k m w a n a8){a1:Nat→Ev Unit}(hp:RV n a k x (m.eval G))(f:Zn q (zE o F x a1) r k i):
  ∃ v:Nat,(execOp m.eval ⟨d,.call ⟨.builtin .len,#[G],#[F]⟩,ty,pos,aft,g⟩).run o w= .ok (.value (.int .i64 v)) w∧eJ .i64 (v:Int)∧Zn q (a1 v) r k i:=by
 obtain⟨σ,C,p⟩:=K.st.ev1 G;unfold zE at f;split at f
 ·obtain⟨l,A⟩:=xL hp;rw[l]at p;split at f
  ·rename_i ht;exact⟨_,SK C p rfl ht,uB A,f⟩
  ·exact f.elim
 ·split at f
  ·exact f.elim
  ·rename_i ae hq;have E:=M7 hq;split at f
   ·rename_i u _;obtain⟨M,O,f⟩:=f;obtain⟨y,I,_,t⟩:=fW hp (λ_ z=>by cases z) rfl rfl;have I:m.eval G=y:=(List.cons.inj I).1;rw[I]at p;have t:=t M O;obtain⟨X,st,L⟩:=M;obtain⟨H,es,P,W⟩:=K.loc O;have H:X=u:=H;subst H
    cases L with
    |own a3 s xs fz=>
     obtain⟨ob,a0,g1,rfl⟩:=t;refine⟨_,iw C p rfl E,?_,f⟩
     cases fz with
     |false=>
      obtain⟨Y,U,D,J,S,rfl⟩:=P;obtain⟨jj,Q⟩:=W _ (List.mem_singleton.2 rfl);exact Ls K.st Q
     |true=>
      obtain⟨Y,U,J,S,_⟩:=P;exact Ba S
    |mat a3 a7 s v hv=>
     obtain⟨ob,a0,a6,g1,rfl⟩:=t;obtain⟨Y,U,a2,a4,J,S,rfl⟩:=P;obtain⟨jj,Q⟩:=W _ List.mem_cons_self;exact⟨_,iw C p rfl E,Ls K.st Q,f⟩
    |box _ _=>exact f.elim
    |mid _ _ _ _ _ _=>exact f.elim
   ·rename_i s xs _;obtain⟨Z,v,a9,t,hR⟩:=I9 hp;have B:v=xs.length:=by obtain⟨_,_,z,_⟩:=hR;cases z;rfl
    rw[t,B]at p;rw[B]at hR;exact⟨_,iw C p rfl E,Ba hR,f⟩
   ·obtain⟨D,l,A⟩:=hp;have l:D=[.slice none 0 0]:=l;subst l;have A:m.eval G= .slice none 0 0:=A;rw[A]at p;exact⟨0,iw C p rfl E,gT.2 ⟨by omega,by omega⟩,f⟩
   ·rename_i v _;obtain⟨D,l,A⟩:=B7 hp;have l:Zx.rel n D v:=l;obtain⟨Z,R,k',rfl⟩:=ig l;have t:m.eval G= .slice Z R k':=A;have B:R=(Zc 18446744073709551616 v).length:=by obtain⟨_,_,z,_⟩:=l;cases z;rfl
    rw[t,B]at p;rw[B]at l;exact⟨_,iw C p rfl E,Ba (A:=Zd .u64) l,f⟩
   ·rename_i v _;obtain⟨D,l,A⟩:=B7 hp;have l:iF.rel n D v:=l;obtain⟨Z,R,k',rfl⟩:=oV l;have t:m.eval G= .slice Z R k':=A;have B:R=(Zc 4294967296 v).length:=by obtain⟨_,_,z,_⟩:=l;cases z;rfl
    rw[t,B]at p;rw[B]at l;exact⟨_,iw C p rfl E,Ba (A:=Zd .u32) l,f⟩
   ·rename_i u i' hv cv s af _;obtain⟨M,O,f⟩:=f;obtain⟨y,I,_,t⟩:=fW hp (λ_ z=>by cases z) rfl rfl;have I:m.eval G=y:=(List.cons.inj I).1;rw[I]at p;have t:=t M O;obtain⟨X,st,L⟩:=M;obtain⟨H,es,P,W⟩:=K.loc O;have H:X=u:=H;subst H
    cases L with
    |mat a3 a7 s' v ab=>
     simp only at f;split at f
     ·rename_i b1;have b1:=eH b1;subst b1;obtain⟨ob,a0,a6,ad,aa,g1,g2,rfl,⟨ri,g4,a5⟩,g5⟩:=t rfl;obtain⟨Y,U,a2,a4,J,S,rfl⟩:=P;have J:a X= .mat Y U a2:=J;rw[g1]at J;cases J;obtain⟨p',D,r1,r2,r3⟩:=vU S g4;obtain⟨jj,Q⟩:=W _ (List.mem_cons_of_mem _ r3);have:=Ls K.st Q;rw[a5]at this;exact⟨_,iw C p rfl E,this,f⟩
     ·exact f.elim
    |box _ _=>exact f.elim
    |mid _ _ _ _ _ _=>exact f.elim
    |own _ _ _ _=>exact f.elim
   ·exact f.elim
theorem Vn(t:kW o l=some ε){z:V}(j:f8 FU x f ε.1 ε.2=some z)(u:RR c a k false x s)(r:x.ok b)(w:World):
  (part l s.toArray f).run o w= .ok (z.val ((s.drop f).take ε.1)) w∧RR c a k false z ((s.drop f).take ε.1)∧z.ok b:=by
 obtain⟨m,v,y,h,A⟩:=m7 FU j u r;refine⟨?_,m,v⟩;have g:=xz t;unfold part
 cases e:ε.2 with
 |true=>
  have d:=g.agg w;rw[e]at d;have i:(s.toArray.extract f (f+ε.1))=((s.drop f).take ε.1).toArray:=by
   apply Array.ext';rw[Array.toList_extract];simp[List.extract,List.take_drop]
  simp[d,g.size,V.val,h,e]
 |false=>
  have d:=g.agg w;rw[e]at d;have n:=m6 FU j (by rw[h,e]);have i:=Bp m n (by rw[h,e]);have p:s[f]?= some (z.val ((s.drop f).take ε.1)):=by
   have:((s.drop f).take ε.1)[0]?= some (z.val ((s.drop f).take ε.1)):=by
    conv=>lhs;rw[i]
    rfl
   rw[List.getElem?_take_of_lt (by omega),List.getElem?_drop]at this
   simpa using this
  have q:s.toArray[f]?= some (z.val ((s.drop f).take ε.1)):=by simpa using p
  simp[d,q]
def o4{a:Type}(p:Option Nat×Nat)(r:List a):Value:=.slice (eF p.1) r.length p.2
theorem CQ:∀{rows:List (Option Nat×Nat)} {m:List (List p)} (k:Nat),(Zq rows m)[k]?= (rows[k]?).bind λa=>(m[k]?).map λr=>o4 a r
 |[],_,_=>by simp[Zq]
 |_ :: _,[],k=>by cases h:(_ :: _:List (Option Nat×Nat))[k]? <;> simp[Zq]
 |a :: b,r :: c,0=>by simp[Zq,o4]
 |a :: b,r :: c,k+1=>by simpa [Zq] using CQ (rows:=b) (m:=c) k
theorem xJ:∀{i:List (Option Nat×Nat)} {m:List (List t.den)} {es:List dY},gk c l t i m es↔i.length=m.length∧es.length=m.length∧∀(k:Nat) (p:Option Nat×Nat) (r:List t.den),i[k]?= some p→m[k]?= some r→∃a,t.rep.rels c a r∧es[k]?= some (dY.own p.1 l t.n r.length p.2 a)
 |[],[],es=>by
  constructor
  ·intro h
   rw[show es=[] from h]
   exact⟨rfl,rfl,λk p r h=>by simp at h⟩
  ·rintro⟨_,h,_⟩
   exact List.length_eq_zero_iff.1 h
 |p :: w,r :: y,es=>by
  constructor
  ·rintro⟨a,j,e,rfl,d⟩
   obtain⟨q,s,u⟩:=xJ.1 d
   refine⟨by simp[q],by simp[s],λk f g hp b=>?_⟩
   cases k with
   |zero=>simp at hp b;subst hp b;exact⟨a,e,rfl⟩
   |succ k=>simp only[List.getElem?_cons_succ]at hp b ⊢;exact u k f g hp b
  ·rintro⟨e,n,d⟩
   cases es with
   |nil=>simp at n
   |cons x j=>
    obtain⟨a,v,o⟩:=d 0 p r rfl rfl
    simp at o
    refine⟨a,j,v,by rw[o],xJ.2 ⟨by simpa using e,by simpa using n,λk f g hp b=>?_⟩⟩
    have:=d (k+1) f g (by simpa using hp) (by simpa using b)
    simpa using this
 |[],_ :: _,es=>⟨λk=>k.elim,λk=>by simp at k⟩
 |_ :: _,[],es=>⟨λk=>k.elim,λk=>by simp at k⟩
theorem ZdF{m:dY}{p:Option Nat×Nat}{r':List t.den}(h:gk c l t A D (d++m :: M))(q:t.rep.rels c s r'):
  (Zq A D).take d.length++[o4 p r']++(Zq A D).drop (d.length+1)=Zq (A.set d.length p) (D.set d.length r')∧gk c l t (A.set d.length p) (D.set d.length r') (d ++ .own p.1 l t.n r'.length p.2 s :: M):=by
 obtain⟨g,i,r⟩:=xJ.1 h;have z:d.length<D.length:=by rw[←i];simp
 have y:=oG g;constructor
 ·have e:(Zq A D).take d.length++[o4 p r']++(Zq A D).drop (d.length+1)=(Zq A D).set d.length (o4 p r'):=by
   rw[List.set_eq_take_append_cons_drop,iP (by omega)];simp
  rw[e];apply List.ext_getElem?;intro k;rw[CQ,List.getElem?_set,List.getElem?_set,List.getElem?_set];by_cases a:d.length=k
  ·rw[iP a,iP a,iP a,iP (by omega),iP (by omega),iP (by omega)];rfl
  ·rw[iN a,iN a,iN a,CQ]
 ·refine xJ.2 ⟨by simpa using g,by simpa using i,λk u x hp b=>?_⟩;rw[List.getElem?_set]at hp b;by_cases a:d.length=k
  ·subst a;rw[iP rfl,iP (by omega)]at hp b
   cases hp;cases b
   exact⟨s,q,by rw[List.getElem?_append_right (Nat.le_refl _)];simp⟩
  ·rw[iN a]at hp b;obtain⟨n,v,w⟩:=r k u x hp b;refine⟨n,v,?_⟩;rw[←w];by_cases f:k<d.length
   ·rw[List.getElem?_append_left f,List.getElem?_append_left f]
   ·rw[List.getElem?_append_right (by omega),List.getElem?_append_right (by omega)];obtain⟨j,o⟩:∃j,k-d.length=j+1:=⟨k-d.length-1,by omega⟩;rw[o,List.getElem?_cons_succ,List.getElem?_cons_succ]
theorem ZqC{es:List dY}{e:Option Nat×Nat}{g:List t.den}(h:gk c l t A D es)(x:A[f]?= some X)(y:A[q]?= some e)(i:D[f]?= some w)(j:D[q]?= some g):
  ((Zq A D).set f (o4 e g)).set q (o4 X w)=Zq ((A.set f e).set q X) (nF D f q)∧∃o,o.Perm es∧gk c l t ((A.set f e).set q X) (nF D f q) o:=by
 obtain⟨p,B,m⟩:=xJ.1 h;have J:=oG p;have K:f<D.length:=(List.getElem?_eq_some_iff.1 i).1;have L:q<D.length:=(List.getElem?_eq_some_iff.1 j).1;have z:nF D f q=(D.set f g).set q w:=by
  unfold nF;rw[List.getD_eq_getElem?_getD,List.getD_eq_getElem?_getD,i,j];rfl
 obtain⟨n,F,G⟩:=m f X w x i;obtain⟨cj,H,I⟩:=m q e g y j;have r:f<es.length:=by omega
 have s:q<es.length:=by omega
 have u:es[f]= .own X.1 l t.n w.length X.2 n:=(List.getElem?_eq_some_iff.1 G).2;have v:es[q]= .own e.1 l t.n g.length e.2 cj:=(List.getElem?_eq_some_iff.1 I).2;rw[z];refine⟨?_,(es.set f es[q]).set q es[f],List.set_set_perm r s,?_⟩
 ·apply List.ext_getElem?;intro k;rw[CQ,List.getElem?_set,List.getElem?_set,List.getElem?_set,List.getElem?_set,List.getElem?_set,List.getElem?_set];simp only[List.length_set];by_cases a:q=k
  ·rw[iP a,iP a,iP a,iP (by omega),iP (by omega),iP (by omega)];rfl
  ·rw[iN a,iN a,iN a];by_cases b:f=k
   ·rw[iP b,iP b,iP b,iP (by omega),iP (by omega),iP (by omega)];rfl
   ·rw[iN b,iN b,iN b,CQ]
 ·refine xJ.2 ⟨by simpa using p,by simpa using B,λk C E hp d=>?_⟩;rw[List.getElem?_set,List.getElem?_set]at hp d ⊢;simp only[List.length_set]at hp d ⊢;by_cases a:q=k
  ·rw[iP a,iP (by omega)]at hp d
   cases hp;cases d
   exact⟨n,F,by rw[iP a,iP (by omega),u]⟩
  ·rw[iN a]at hp d ⊢;by_cases b:f=k
   ·rw[iP b,iP (by omega)]at hp d
    cases hp;cases d
    exact⟨cj,H,by rw[iP b,iP (by omega),v]⟩
   ·rw[iN b]at hp d ⊢;exact m k C E hp d
theorem T8{A:ee p}{d:List Value}{sz:Nat}{x:p}(h:A.rels c s δ)(e:f<δ.length)(b:(s.drop (f*sz)).take sz=κ)(l:A.rel c (κ.take Q++d++κ.drop (Q+I)) x)(a:sz=A.n)(hp:Q+I≤sz):
  A.rels c (s.take (0+f*sz+Q)++d++s.drop (0+f*sz+Q+I)) (δ.set f x):=by
 have k:=kK h;have n:f*sz+sz≤s.length:=by
  rw[k,←a,←Nat.succ_mul];exact mR _ e
 have m:=yl (sz:=sz) (m:=sz) h e l a a;have g:s.take (0+f*sz+Q)=s.take (0+f*sz)++κ.take Q:=by
  rw[←b,List.take_take,Nat.min_eq_left (by omega),Nat.zero_add,List.take_add]
 have i:s.drop (0+f*sz+Q+I)=κ.drop (Q+I)++s.drop (0+f*sz+sz):=by
  rw[←b,List.drop_take,List.drop_drop,Nat.zero_add,show f*sz+Q+I=f*sz+(Q+I) by omega];have j:s.drop (f*sz+sz)=(s.drop (f*sz+(Q+I))).drop (sz-(Q+I)):=by
   rw[List.drop_drop];congr 1;omega
  rw[j,List.take_append_drop]
 rw[g,i]
 simpa [fj] using m
theorem Vf{i:dW}(b:St f i c z d n m g){j sz:Nat}{T:TypeId}(e:d[j]?= some (.own C T sz I Q s)){a:Nat}(h:α<I)(hp:ξ+a≤sz):0+α*sz+ξ+a≤s.length:=by
 have:=DV b e h;omega
theorem St.bare(h:St f j c z d n m g):St f j c [] d n m g:=h.frame ZiA
theorem HG(h:RR c a k false x s)(b:x.fit=true):cellsOf (x.val s) s∧s.all plain=true:=by
 unfold V.fit at b;have hp:x.plain=true:=by
  cases hp:x.plain
  ·rw[hp]at b;cases b
  ·rfl
 have f:=Xo hp h;refine⟨?_,f⟩;rw[hp]at b;unfold V.val
 cases d:x.isAgg with
 |true=>exact W8 s
 |false=>
  rw[d]at b;have hs:=eH b;have e:=Bp h hs d;have i:x.val s=s.headD undef:=by unfold V.val;rw[d]
  rw[i]at e;rw[e]at f;have g:plain (s.headD undef)=true:=by simpa using f
  have:=nw g;show cellsOf (s.headD undef) s
  conv=>arg 2;rw[e]
  exact this
theorem L7(a:x.fit=true):∀c,x ≠ .tup c:=λc e=>by subst e;cases a
theorem vA{N:Nat}(s:dZ N e j c b h r k m L a n d)(p:∀l,b l→h l)(q:K.dst=none)(t:(execOp m.eval K).run o g= .ok .skip L)(f:i () r k):gP o N e j c h K m g i:=by
 refine Lr t ?_;rw[q];exact⟨_,_,f,_,_,_,s.mono p λ_ f=>f⟩
theorem PV(c:s.all plain=true)(d:κ.all plain=true):(s.take f++κ++s.drop (f+κ.length)).all plain=true:=by
 have b:=List.all_eq_true.1 c;refine List.all_eq_true.2 λx a=>?_;rcases List.mem_append.1 a with a |a
 ·rcases List.mem_append.1 a with a |a
  ·exact b x (List.mem_of_mem_take a)
  ·exact List.all_eq_true.1 d x a
 ·exact b x (List.mem_of_mem_drop a)
theorem M9{d:V}(i:iI FU (.data t E) f x=some d)(e:t.rep.rel c s E)(l:RR c a k false x κ)(j:x.ok b):
  RR c a k false d (s.take f++κ++s.drop (f+κ.length))∧d.ok b∧f+κ.length≤t.n:=by
 obtain⟨g,h,m,_⟩:=vI FU i (γ:=a) (l:=k) (x:=.data t E) e l trivial j;refine⟨g,h,?_⟩;have:=ee.len _ e;rw[ZK]at this;omega
theorem Oo:∀{f:List (Option Nat×Nat)} {m:List (List t.den)} {es:List dY} {i:Nat} {p:Option Nat×Nat} {r:List t.den},gk c l t f m es→f[i]?= some p→m[i]?= some r→
  ∃ a g j,es=g ++ .own p.1 l t.n r.length p.2 a :: j∧t.rep.rels c a r∧∀(b:List t.den) (d:List Value),b.length=r.length→t.rep.rels c d b→Zq f (m.set i b)=Zq f m∧gk c l t f (m.set i b) (g ++ .own p.1 l t.n r.length p.2 d :: j)
 |[],[],_,_,_,_,_,h,_=>by simp at h
 |q :: E,x :: F,es,0,p,r,⟨a,o,s,u,v⟩,hp,e=>by
  simp at hp e
  subst hp e
  refine⟨a,[],o,by simpa using u,s,λb d n w=>⟨by simp[Zq,n],?_⟩⟩
  exact⟨d,o,w,by rw[←n];rfl,v⟩
 |q :: E,x :: F,es,i+1,p,r,⟨a,o,s,u,v⟩,hp,e=>by
  simp only[List.getElem?_cons_succ]at hp e
  obtain⟨y,g,j,z,A,B⟩:=Oo v hp e
  subst z
  refine⟨y,.own q.1 l t.n x.length q.2 a :: g,j,by simpa using u,A,λb d n w=>?_⟩
  obtain⟨C,D⟩:=B b d n w
  exact⟨by simp only[List.set_cons_succ,Zq,C],a,_,s,rfl,D⟩
 |[],_ :: _,_,_,_,_,k,_,_=>k.elim
 |_ :: _,[],_,_,_,_,k,_,_=>k.elim
theorem R9{p:Option Nat×Nat}{r':List t.den}:∀{a:List (Option Nat×Nat)} {m:List (List t.den)} {es:List dY} {i:Nat} {r:Option Nat×Nat},gk c l t a m es→a[i]?= some r→t.rep.rels c s r'→
  (Zq a m).take i++[Value.slice (eF p.1) r'.length p.2]++(Zq a m).drop (i+1)=Zq (a.set i p) (m.set i r')∧∃b d e,es=b++e :: d∧gk c l t (a.set i p) (m.set i r') (b ++ .own p.1 l t.n r'.length p.2 s :: d)
 |[],[],_,_,_,_,h,_=>by simp at h
 |q :: z,v :: A,es,0,r,⟨f,g,u,j,n⟩,hp,o=>by
  refine⟨by simp[Zq],[],g,_,by simpa using j,?_⟩
  exact⟨s,g,o,rfl,n⟩
 |q :: z,v :: A,es,i+1,r,⟨f,g,u,j,n⟩,hp,o=>by
  simp only[List.getElem?_cons_succ]at hp
  obtain⟨w,b,d,e,x,y⟩:=R9 (p:=p) n hp o
  subst x
  refine⟨by simp only[List.set_cons_succ,Zq,List.take_succ_cons,List.drop_succ_cons,List.cons_append,w],.own q.1 l t.n v.length q.2 f :: b,d,e,by simpa using j,?_⟩
  exact⟨f,_,u,rfl,y⟩
 |[],_ :: _,_,_,_,k,_,_=>k.elim
 |_ :: _,[],_,_,_,k,_,_=>k.elim
theorem ZkE{m:List (List p)}{b:List p}(a:m[f]?= some δ)(c:b.length=δ.length):(m.set f b).map List.length=m.map List.length:=by
 apply List.ext_getElem?;intro j;simp only[List.getElem?_map];by_cases h:f=j
 ·subst h;have d:=(List.getElem?_eq_some_iff.1 a).1;rw[List.getElem?_set_self d,a];simp[c]
 ·rw[List.getElem?_set_ne h]
theorem DO:∀(g:Nat) {x z v:V} {s:Nat},iI g x s z=some v→x.ok b→z.ok b→v.ok b
 |0,_,_,_,_,h,_,_=>by cases h
 |g+1,x,z,v,s,h,d,p=>by
  have e:∀{y:V},(match Nat.beq s 0,Nat.beq y.size z.size,rU y.isAgg z.isAgg with
    |true,true,true=>some z
    |_,_,_=>match y with
     |.agg c=>match iI g c s z with
      |some l=>some (.agg l)
      |none=>none
     |.data t x=>match kr t x with
      |some c=>match iI g c s z with
       |some l=>some (.agg l)
       |none=>none
      |none=>none
     |_=>none)=some v→y.ok b→v.ok b:=by
   intro y k d;split at k
   ·cases k;exact p
   ·split at k
    ·split at k
     ·rename_i l n;cases k;exact(show V.ok b l from DO g n d p)
     ·cases k
    ·split at k
     ·rename_i c w;split at k
      ·rename_i l n;cases k;exact(show V.ok b l from DO g n (ON w) p)
      ·cases k
     ·cases k
    ·cases k
  cases x with
  |nl=>simp only[iI]at h;cases h
  |cons a A=>
   simp only[iI]at h;split at h
   ·split at h
    ·rename_i n;cases h;exact⟨DO g n d.1 p,d.2⟩
    ·cases h
   ·split at h
    ·split at h
     ·rename_i n;cases h;exact⟨d.1,DO g n d.2 p⟩
     ·cases h
    ·cases h
  |data t x=>exact e (y:=.data t x) h d
  |agg c=>exact e (y:=.agg c) h d
  |nilS=>exact e (y:=.nilS) h d
  |own u=>exact e (y:=.own u) h d
  |row u i q m t r=>exact e (y:=.row u i q m t r) h d
  |ptr u o=>exact e (y:=.ptr u o) h d
  |el u i m t x o=>exact e (y:=.el u i m t x o) h d
  |rp u i q m t r=>exact e (y:=.rp u i q m t r) h d
  |rel u i j q m t r x o=>exact e (y:=.rel u i j q m t r x o) h d
  |vp t x o=>exact e (y:=.vp t x o) h d
  |tup c=>exact e (y:=.tup c) h d
  |fn f c=>exact e (y:=.fn f c) h d
  |ifc f c=>exact e (y:=.ifc f c) h d
  |undef=>exact e (y:=.undef) h d
theorem FQ(h:gM g f q s)(b:gM g f q κ)(i:s.length=κ.length):s=κ:=by
 obtain⟨x,T,k,c,d⟩:=h;obtain⟨m,j,l,a,e⟩:=b;rw[c]at a;cases a;rw[←d,←e,i]
theorem Rp{N:Nat}(p:dZ N e j c b h r k m g a n d)(H:eC k q=some ⟨I,Q,.own l t w Y⟩)(B:a q= .own (some W) α)(u:w[ξ]?= some E):∃x,t.rep.rel n x E∧gM g W (0+ξ*t.n) x:=by
 obtain⟨o,es,z,K⟩:=p.loc H;have o:I=q:=o;subst o
 cases Y with
 |false=>
  obtain⟨ob,i,C,f,v,rfl⟩:=z;have f:a I= .own ob i:=f;rw[B]at f;cases f;obtain⟨M,J⟩:=K _ (List.mem_singleton.2 rfl);have s:=hO v u;rw[ZK]at s;have A:=ee.len _ s;rw[ZK]at A;refine⟨_,s,?_⟩;have:=pZ p.st J rfl (List.getElem?_eq_some_iff.1 u).1 0 ((C.drop (ξ*t.n)).take t.n) (by rw[A,List.drop_zero,List.take_take,Nat.min_self]) (by omega)
  simpa using this
 |true=>
  obtain⟨ob,i,f,v,_⟩:=z;have f:a I= .own ob i:=f;rw[B]at f;cases f;obtain⟨_,L,O,D,F,y,G⟩:=ly v u
  cases F
  rw[ZK]at y;exact⟨D,G,p.st.view y⟩
theorem RS{N:Nat}(x:dZ N e j c b h r k m g a n d)(H:eC k q=some ⟨I,Q,.mat l F t D W⟩){ob:Option Nat}{p s C:Nat}(P:a q= .mat ob α A)(O:A[ξ]?= some (some s,C))(L:D[ξ]?= some w)(y:w[p]?= some E):∃u,t.rep.rel n u E∧gM g s (0+p*t.n) u:=by
 obtain⟨i,es,J,M⟩:=x.loc H;have i:I=q:=i;subst i;obtain⟨R,B,Y,Z,f,S,rfl⟩:=J;have f:a I= .mat R B Y:=f;rw[P]at f;cases f;obtain⟨p',G,z,U,X⟩:=vU S L;rw[O]at z;cases z;obtain⟨jj,K⟩:=M _ (List.mem_cons_of_mem _ X);have o:=hO U y;rw[ZK]at o;have v:=ee.len _ o;rw[ZK]at v;refine⟨_,o,?_⟩;have:=pZ x.st K rfl (List.getElem?_eq_some_iff.1 y).1 0 ((G.drop (p*t.n)).take t.n) (by rw[v,List.drop_zero,List.take_take,Nat.min_self]) (by omega)
 simpa using this
theorem Au{N:Nat}{l:Lo}{ty:TypeId}(Q:dZ N e j c b h r l m g a n d)(hU:∀k,b k→h k)(hX:h q)(hn:¬b q){cq:V}(ho:K=⟨none,.store F G ζ,ty,O,J,B⟩)(hp:RV n a l x (m.eval G))(hq:RV n a l cq (m.eval ζ))(hk:x.ok b)(bf:cq.ok b)(f:Zn q (NH o q F x cq) r l i):gP o N e j c h K m g i:=by
 unfold NH at f;split at f
 ·exact f.elim
 ·rename_i sz e7;split at f
  ·rename_i b1 cz d0;have b1:=eH b1;have cz:=Jx cz;obtain⟨cs,b7,bn⟩:=jv hq (L7 d0);obtain⟨bj,ba⟩:=HG b7 d0;have aj:cs.length=sz.1:=(o6 b7).trans b1;have hS:=xz e7;split at f
   · -- m variable
    rename_i u a8;obtain⟨en,E,f⟩:=f;obtain⟨yy,a2,_,hy⟩:=fW hp (λ_ v=>by cases v) rfl rfl;have a2:m.eval G=yy:=(List.cons.inj a2).1;have hy:=hy en E;obtain⟨y,st,L⟩:=en;obtain⟨hm,a1⟩:=Zv E;have a1:y=u:=a1;subst a1
    cases L with
    |box R aa=>
     simp only at f;obtain⟨b',g4,rfl⟩:=hy;split at f
     ·rename_i c' ds;obtain⟨es,E',h1,h2,_,h3,_⟩:=Q.del E;obtain⟨W,ek,D,g2,g3,rfl⟩:=h1;have D:a y= .box W:=D;rw[D]at g4;cases g4;have du:aa.ok b:=(Q.ul _ hm).2.2;obtain⟨k1,Z,k3,_⟩:=vI FU ds g2 b7 du bf;rw[aj]at k3;have hs:=Q.st.perm h3;obtain⟨σ,a7,P,e2⟩:=hs.ev2 G ζ;rw[a2]at P;rw[bn]at e2;obtain⟨w',a6,A⟩:=J9 (P:=o) a7 hS bj aj (i:=0) rfl (by omega) ba;have a3:Le b n a l n a (⟨y,q,.box R c'⟩ :: era l y):=Le.upd Q E (Zb.le_refl _) (λ_ _=>rfl) rfl;subst ho;refine vA (Q.upd hX (Q.ul _ hm).1 h2 A.bare a3 (λ_ _=>rfl) ⟨_,_,D,jl a3 Z k1,PV g3 ba,rfl⟩ (List.Perm.refl _) Z) hU rfl (a6 P e2) f
     ·exact f.elim
    |own _ _ _ _=>exact f.elim
    |mid _ _ _ _ _ _=>exact f.elim
    |mat _ _ _ _ _=>exact f.elim
   · -- an element
    rename_i u t dg s x0 a8;split at f
    ·rename_i z hz;obtain⟨yy,a2,_,⟨eh,bw⟩,hy⟩:=fW hp (λ_ v=>by cases v) rfl rfl;have a2:m.eval G=yy:=(List.cons.inj a2).1;obtain⟨z1,z2,z3⟩:=M9 hz bw b7 bf;obtain⟨y1,l1,ah,v1,dd,f,r1,bi,C⟩:=pp hn hX FU f Q z2;obtain⟨en,E,f⟩:=f;have cb:=jD bi hk hp;obtain⟨cw,ar,_,_,hy⟩:=fW cb (λ_ v=>by cases v) rfl rfl;have ar:m.eval G=cw:=(List.cons.inj ar).1;have hy:=hy en E;obtain⟨y,st,L⟩:=en;obtain⟨hm,a1⟩:=Zv E;have a1:y=u:=a1;subst a1
     cases L with
     |own R s' M fz=>
      cases fz with
      |true=>exact f.elim
      |false=>
       simp only at f;obtain⟨W,S,D,rfl,g3,g4⟩:=hy;obtain⟨es,E',h1,h2,_,h3,_⟩:=r1.del E;obtain⟨ob,al,ab,Y,f2,rfl⟩:=h1;have Y:ah y= .own ob al:=Y;rw[D]at Y;cases Y;have gr:∀(aa:List Value) (y':s'.den),(ab.drop (t*s'.n)).take s'.n=aa→a8+sz.1≤s'.n→s'.rep.rel v1 (aa.take a8++cs++aa.drop (a8+sz.1)) y'→i () r (⟨y,q,.own R s' (M.set t y') false⟩ :: era l1 y)→gP o N e j c h K m g i:=by
        intro aa y' hc ai am cc;have hs:=r1.st.perm h3;obtain⟨σ,a7,P,e2⟩:=hs.ev2 G ζ;rw[ar]at P;rw[bn]at e2;have ak:=T8 f2 g3 hc am (ZK s').symm ai;have aw:=kK f2;rw[ZK]at aw;have c0:0+t*s'.n+a8+sz.1≤ab.length:=Vf hs (j:=0) rfl g3 ai;obtain⟨w',a6,A⟩:=pK (P:=o) a7 hS bj aj (i:=0) rfl c0 ba;rw[aj]at A;have a3:Le b v1 ah l1 v1 ah (⟨y,q,.own R s' (M.set t y') false⟩ :: era l1 y):=Le.upd r1 E (Zb.le_refl _) (λ_ _=>rfl) ⟨rfl,rfl,by simp,λv=>absurd v hn⟩;have ap:St N j c [] (.own (some W) R s'.n (M.set t y').length S (ab.take (0+t*s'.n+a8)++cs++ab.drop (0+t*s'.n+a8+sz.1)) :: E'.flatten) v1 m w':=by
         rw[List.length_set];exact A.bare
        subst ho;exact vA (r1.upd hX (r1.ul _ hm).1 h2 ap a3 (λ_ _=>rfl) ⟨some W,S,_,D,ak,rfl⟩ (List.Perm.refl _) trivial) hU rfl (a6 P e2) cc
       have dp:a8=0→sz.1=s.n→∀y',T.cast s s' y1=some y'→i () r (⟨y,q,.own R s' (M.set t y') false⟩ :: era l1 y)→gP o N e j c h K m g i:=by
        intro e0 P y' hc cc;obtain⟨c3,c4⟩:=fK hc;subst c3;subst c4;refine gr _ y1 rfl (by omega) ?_ cc;have c9:=ee.len _ bw;rw[ZK]at c9;have aw:=kK f2;rw[ZK]at aw;have ew:((ab.drop (t*s.n)).take s.n).length=s.n:=by
         have:t*s.n+s.n≤ab.length:=by rw[aw,←Nat.succ_mul];exact mR _ g3
         simp;omega
        have C:=C _ z1;rw[e0]at C ⊢;rw[List.take_zero,List.drop_of_length_le (by omega)]at C ⊢;exact C
       split at f
       ·rename_i dw dx;split at f
        ·rename_i y' bp;exact dp (eH dw) (b1.symm.trans (eH dx)) y' bp f
        ·exact f.elim
       ·rename_i d7 _;split at f
        ·rename_i y' bp;obtain⟨ys,c1,c2⟩:=g4 (eH d7);obtain⟨c3,c4⟩:=fK c1
         cases c3;cases c4
         rw[CH]at bp;cases bp;have am:=hO f2 c2;rw[ZK]at am;obtain⟨⟨k0,fR,L0⟩,b8,b6⟩:=bi.l _ _ hk.1 E;have A:b st:=(eH d7)▸ hk.2
         cases L0 with
         |own cv t1 fd et=>
          obtain⟨d1,di,d3,d4⟩:=b6;obtain⟨d5,d6⟩:=d4 A
          cases d6
          rw[d1]at D;obtain⟨aa,b5,bc⟩:=Rp Q b8 D c2;obtain⟨cy,_,_⟩:=M9 hz b5 b7 bf;have X:=C _ cy;rw[aj]at X;refine gr aa y1 ?_ (by omega) X f;have dq:ah y= .own (some W) S:=by rw[d1];exact D
          obtain⟨c',bx,bz⟩:=Rp r1 E dq c2;have b9:=ee.len _ b5;have e3:=ee.len _ bx;have P:=FQ bc bz (b9.trans e3.symm);have az:=ee.len _ am;rw[ZK]at b9 az;obtain⟨jj,hj⟩:∃t:Nat,dd[t]?= some (.own (some W) R s.n M.length S ab):=List.getElem?_of_mem (h3.mem_iff.2 (by simp));have hw:=pZ r1.st hj rfl g3 0 ((ab.drop (t*s.n)).take s.n) (by rw[az,List.drop_zero,List.take_take,Nat.min_self]) (by omega);exact FQ (by simpa using hw) bc (az.trans b9.symm)
         |box _ _=>exact b6.elim
         |mid _ _ _ _ _ _=>
          obtain⟨_,_,_,_,cm⟩:=fW hp (λ_ v=>by cases v) rfl rfl;exact(cm _ b8).elim
         |mat _ _ _ _ _=>
          obtain⟨_,_,_,_,cm⟩:=fW hp (λ_ v=>by cases v) rfl rfl;exact(cm _ b8).elim
        ·exact f.elim
       ·exact f.elim
     |box cv c1=>
      cases c1 with
      |data t' w'=>
       simp only at f;split at f
       ·rename_i p e' hu;split at f
        ·rename_i w2 ca cl ec bk;obtain⟨⟨⟩,c7,f⟩:=f
         dsimp only at f
         split at f
         ·rename_i w3 bo;have ca:=eH ca;have cl:=eH cl;subst ca;obtain⟨c3,c4⟩:=fK ec;subst c3;subst c4;have bo:T.cast (iz s p) (iz s p) (lJ s p w' t y1)=some w3:=bo;rw[CH]at bo
          cases bo
          have c6:t<p:=by
           unfold Vo at c7;split at c7
           ·assumption
           ·cases c7
          obtain⟨W,D,rfl⟩:=hy;obtain⟨es,E',h1,h2,_,h3,_⟩:=r1.del E;obtain⟨b',ab,Y,f2,f3,rfl⟩:=h1;have Y:ah y= .box b':=Y;rw[D]at Y;cases Y;have bk:0<p:=lB bk;have f2:(iz s p).rep.rel v1 ab w':=f2;obtain⟨k1,Z⟩:=Fi bk f2;have aw:=kK k1;rw[ZK,Z]at aw;have c9:=ee.len _ bw;rw[ZK]at c9;have e6:sz.1=s.n:=b1.symm.trans cl;have bg:s.rep.rel v1 cs y1:=by
           have C:=C _ z1;rw[List.take_zero,List.drop_of_length_le (by omega)]at C
           simpa using C
          have ak:=yl k1 (by rw[Z];exact c6) bg (ZK s).symm (aj.trans (e6.trans (ZK s).symm));rw[←SM c6]at ak;have am:=Tx bk ak;have hs:=r1.st.perm h3;obtain⟨σ,a7,P,e2⟩:=hs.ev2 G ζ;rw[ar]at P;rw[bn]at e2;have ex:t*s.n+s.n≤ab.length:=by rw[aw,←Nat.succ_mul];exact mR _ c6
          obtain⟨w4,a6,A⟩:=J9 (P:=o) a7 hS bj aj (i:=0) rfl (off:=0+t*s.n+0) (by omega) ba;have a3:Le b v1 ah l1 v1 ah (⟨y,q,.box cv (.data (iz s p) (lJ s p w' t y1))⟩ :: era l1 y):=Le.upd r1 E (Zb.le_refl _) (λ_ _=>rfl) rfl;subst ho;exact vA (r1.upd hX (r1.ul _ hm).1 h2 A.bare a3 (λ_ _=>rfl) ⟨_,_,D,am,PV f3 ba,rfl⟩ (List.Perm.refl _) trivial) hU rfl (a6 P e2) f
         ·exact f.elim
        ·exact f.elim
       ·exact f.elim
      |_=>exact f.elim
     |mid _ _ _ _ _ _=>exact f.elim
     |mat _ _ _ _ _=>exact f.elim
    ·exact f.elim
   · -- m row is put into its place
    rename_i u t ez el s0 r0;split at f
    ·rename_i u2 _ _;obtain⟨en,E,f⟩:=f;obtain⟨yy,a2,_,hy⟩:=fW hp (λ_ v=>by cases v) rfl rfl;have a2:m.eval G=yy:=(List.cons.inj a2).1;have hy:=hy en E;obtain⟨y,st,L⟩:=en;obtain⟨hm,a1⟩:=Zv E;have a1:y=u:=a1;subst a1
     cases L with
     |mat R a9 s p hv=>
      obtain⟨bs,af,f⟩:=f;obtain⟨Z,ed,L2⟩:=bs;obtain⟨e4,ay⟩:=Zv af;have ay:Z=u2:=ay;subst ay
      cases L2 with
      |own ag s' M fz=>
       cases fz with
       |true=>exact f.elim
       |false=>
        simp only at f;split at f
        ·rename_i l' b0 c8;have b0:=eH b0;subst b0;obtain⟨c3,c4⟩:=fK c8
         cases c3;cases c4
         have a5:y≠Z:=λv=>by subst v;rw[E]at af;cases af
         obtain⟨W,S,w,D,rfl,g3,g4⟩:=hy;obtain⟨dk,E2,h1,h2,bv,h3,r2⟩:=Q.del af;obtain⟨I,H,b3,Y,f2,rfl⟩:=h1;have ax:eC (era l Z) y=some ⟨y,st,.mat R ag s p hv⟩:=by
          rw[kG Q.nd,iN (λv=>a5 v.symm)];exact E
         obtain⟨dn,E',ch,ci,ck⟩:=xq bv ax;obtain⟨b2,al,w,av,C,X,rfl⟩:=ch;have C:a y= .mat b2 al w:=C;rw[D]at C;cases C;have ao:=xg X;obtain⟨p',e5⟩:∃p',w[t]?= some p':=⟨_,List.getElem?_eq_getElem (by omega)⟩;obtain⟨hh,P,e2,au,k1,k3⟩:=R9 X e5 (p:=(I,H)) (r':=M) f2;have ce:m.eval ζ= .slice (eF I) M.length H:=by
          obtain⟨yq,cp,_,co⟩:=fW hq (λ_ v=>by cases v) rfl rfl;obtain⟨oq,df,bb,bt⟩:=co _ af;have Y:a Z= .own I H:=Y;rw[Y]at bb;cases bb;exact((List.cons.inj cp).1).trans bt
         have hs:St N j c [] (.own (some W) R 1 p.length S (Zq w p) :: .own I ag s.n M.length H b3 :: (av++E'.flatten)) n m g:=by
          refine Q.st.perm ((h3.trans (List.Perm.append_left _ ck)).trans ?_);simp only[List.cons_append];exact List.Perm.swap _ _ _
         obtain⟨σ,a7,ad,ae⟩:=hs.ev2 G ζ;rw[a2]at ad;rw[ce]at ae;have b4:eS o F ([Value.slice (eF I) M.length H]:List Value).length sz.2:=by
          have:sz.1=1:=b1.symm;rw[this]at hS;exact hS
         have ai:0+t*1+([Value.slice (eF I) M.length H]:List Value).length≤(Zq w p).length:=by
          rw[oG ao];simp only[List.length_singleton];omega
         obtain⟨w',a6,A⟩:=pK (P:=o) a7 b4 (cs:=[Value.slice (eF I) M.length H]) (z:=.slice (eF I) M.length H) (nw rfl) rfl (i:=0) rfl ai rfl;have c5:(Zq w p).take (0+t*1)++[Value.slice (eF I) M.length H]++(Zq w p).drop (0+t*1+1)=Zq (w.set t (I,H)) (p.set t M):=by
          rw[Nat.zero_add,Nat.mul_one];exact hh
         have A:=A.bare;simp only[List.set_cons_zero,List.length_singleton]at A;rw[c5]at A;subst k1;have ap:St N j c [] (.own (some W) R 1 (p.set t M).length S (Zq (w.set t (I,H)) (p.set t M)) :: (P ++ .own I ag s.n M.length H b3 :: e2)++E'.flatten) n m w':=by
          rw[List.length_set];refine(A.drop (ℓ':=.own (some W) R 1 p.length S (Zq (w.set t (I,H)) (p.set t M)) :: .own I ag s.n M.length H b3 :: ((P++e2)++E'.flatten)) ?_).perm ?_
          ·refine List.Sublist.cons_cons _ (List.Sublist.cons_cons _ (List.Sublist.append (List.Sublist.append (List.Sublist.refl _) (List.sublist_cons_self _ _)) (List.Sublist.refl _)))
          ·simp only[List.cons_append];refine List.Perm.cons _ ?_;rw[←List.cons_append];exact List.Perm.append_right _ (List.perm_middle.symm)
         have a3:Le b n a (era l Z) n (lF a y (.mat (some W) S (w.set t (I,H)))) (⟨y,q,.mat R ag s (p.set t M) q⟩ :: era (era l Z) y):=Le.upd r2 ax (Zb.le_refl _) (λ_ a5=>kP a5) ⟨rfl,by simp,⟨_,_,_,_,D,iR,λv=>absurd v hn⟩,λv=>absurd v hn⟩;subst ho;refine vA (r2.upd hX (r2.ul _ (Zv ax).1).1 ci ap a3 (λ_ a5=>kP a5) ⟨some W,S,w.set t (I,H),_,iR,k3,rfl⟩ ?_ hX) hU rfl (a6 ad ae) f;exact List.Perm.refl _
        ·exact f.elim
      |box _ _=>exact f.elim
      |mid _ _ _ _ _ _=>exact f.elim
      |mat _ _ _ _ _=>exact f.elim
     |mid R a9 s p hv sm=>
      cases sm with
      |swp _ _=>exact f.elim
      |hol i1=>
       obtain⟨_,bd,f⟩:=f;have bd:t=i1:=by
        unfold jY at bd;split at bd
        ·assumption
        ·cases bd
       subst bd;obtain⟨bs,af,f⟩:=f;obtain⟨Z,ed,L2⟩:=bs;obtain⟨e4,ay⟩:=Zv af;have ay:Z=u2:=ay;subst ay
       cases L2 with
       |own ag s' M fz=>
        cases fz with
        |true=>exact f.elim
        |false=>
         simp only at f;split at f
         ·rename_i l' b0 c8;have b0:=eH b0;subst b0;obtain⟨c3,c4⟩:=fK c8
          cases c3;cases c4
          have a5:y≠Z:=λv=>by subst v;rw[E]at af;cases af
          obtain⟨W,S,w,D,rfl,g3,g4⟩:=hy;obtain⟨dk,E2,h1,h2,bv,h3,r2⟩:=Q.del af;obtain⟨I,H,b3,Y,f2,rfl⟩:=h1;have ax:eC (era l Z) y=some ⟨y,st,.mid R ag s p hv (.hol t)⟩:=by
           rw[kG Q.nd,iN (λv=>a5 v.symm)];exact E
          obtain⟨dn,E',ch,ci,ck⟩:=xq bv ax;obtain⟨b2,al,w,av,hs,dl,C,X,⟨rfl,P,aa,e2,rfl,rfl,rfl⟩,rfl⟩:=ch;have C:a y= .mat b2 al w:=C;rw[D]at C;cases C;have ao:=xg X;obtain⟨hh,k3⟩:=ZdF X (p:=(I,H)) (r':=M) f2;have ce:m.eval ζ= .slice (eF I) M.length H:=by
           obtain⟨yq,cp,_,co⟩:=fW hq (λ_ v=>by cases v) rfl rfl;obtain⟨oq,df,bb,bt⟩:=co _ af;have Y:a Z= .own I H:=Y;rw[Y]at bb;cases bb;exact((List.cons.inj cp).1).trans bt
          have hs:St N j c [] (.own (some W) R 1 p.length S (Zq w p) :: .own I ag s.n M.length H b3 :: (P++e2++E'.flatten)) n m g:=by
           refine Q.st.perm ((h3.trans (List.Perm.append_left _ ck)).trans ?_);simp only[List.cons_append];exact List.Perm.swap _ _ _
          obtain⟨σ,a7,ad,ae⟩:=hs.ev2 G ζ;rw[a2]at ad;rw[ce]at ae;have b4:eS o F ([Value.slice (eF I) M.length H]:List Value).length sz.2:=by
           have:sz.1=1:=b1.symm;rw[this]at hS;exact hS
          have ai:0+P.length*1+([Value.slice (eF I) M.length H]:List Value).length≤(Zq w p).length:=by
           rw[oG ao];simp only[List.length_singleton];omega
          obtain⟨w',a6,A⟩:=pK (P:=o) a7 b4 (cs:=[Value.slice (eF I) M.length H]) (z:=.slice (eF I) M.length H) (nw rfl) rfl (i:=0) rfl ai rfl;have c5:(Zq w p).take (0+P.length*1)++[Value.slice (eF I) M.length H]++(Zq w p).drop (0+P.length*1+1)=Zq (w.set P.length (I,H)) (p.set P.length M):=by
           rw[Nat.zero_add,Nat.mul_one];exact hh
          have A:=A.bare;simp only[List.set_cons_zero,List.length_singleton]at A;rw[c5]at A;have ap:St N j c [] (.own (some W) R 1 (p.set P.length M).length S (Zq (w.set P.length (I,H)) (p.set P.length M)) :: (P ++ .own I ag s.n M.length H b3 :: e2)++E'.flatten) n m w':=by
           rw[List.length_set];refine A.perm ?_;simp only[List.cons_append,fj];exact List.Perm.cons _ List.perm_middle.symm
          have a3:Le b n a (era l Z) n (lF a y (.mat (some W) S (w.set P.length (I,H)))) (⟨y,q,.mat R ag s (p.set P.length M) q⟩ :: era (era l Z) y):=Le.upd r2 ax (Zb.le_refl _) (λ_ a5=>kP a5) ⟨rfl,by simp,⟨_,_,_,_,D,iR,λv=>absurd v hn⟩,λv=>absurd v hn⟩;subst ho;exact vA (r2.upd hX (r2.ul _ (Zv ax).1).1 ci ap a3 (λ_ a5=>kP a5) ⟨some W,S,w.set P.length (I,H),_,iR,k3,rfl⟩ (List.Perm.refl _) hX) hU rfl (a6 ad ae) f
         ·exact f.elim
       |box _ _=>exact f.elim
       |mid _ _ _ _ _ _=>exact f.elim
       |mat _ _ _ _ _=>exact f.elim
     |box _ _=>exact f.elim
     |own _ _ _ _=>exact f.elim
    · -- another row's header
     rename_i u2 U f1 ep t2 r2 _ _;obtain⟨en,E,f⟩:=f;obtain⟨yy,a2,_,hy⟩:=fW hp (λ_ v=>by cases v) rfl rfl;have a2:m.eval G=yy:=(List.cons.inj a2).1;have hy:=hy en E;obtain⟨yq,bm,_,db⟩:=fW hq (λ_ v=>by cases v) rfl rfl;have bm:m.eval ζ=yq:=(List.cons.inj bm).1;obtain⟨y,st,L⟩:=en;obtain⟨hm,a1⟩:=Zv E;have a1:y=u:=a1;subst a1;have b4:∀z:Value,eS o F ([z]:List Value).length sz.2:=λz=>by
      have:sz.1=1:=b1.symm;rw[this]at hS;exact hS
     cases L with
     |mat R a9 s p hv=>
      simp only at f;split at f
      ·rename_i bu bh;have bu:=eH bu;have bh:=eH bh;subst bu bh;obtain⟨W,S,w,D,rfl,g3,g4⟩:=hy;obtain⟨b2,al,ct,a4,a0,j1,j2,rfl,⟨rj,j3,j4⟩,_⟩:=db _ E rfl;rw[D]at j1;cases j1;obtain⟨es,E',h1,h2,_,h3,_⟩:=Q.del E;obtain⟨I,H,cu,av,C,X,rfl⟩:=h1;have C:a u2= .mat I H cu:=C;rw[D]at C;cases C;have ao:=xg X;have hs:=Q.st.perm h3;obtain⟨σ,a7,ad,ae⟩:=hs.ev2 G ζ;rw[a2]at ad;rw[bm]at ae;have ai:0+t*1+([Value.slice (eF a4) r2.length a0]:List Value).length≤(Zq w p).length:=by
        rw[oG ao];simp only[List.length_singleton];omega
       obtain⟨w',a6,A⟩:=pK (P:=o) a7 (b4 _) (cs:=[Value.slice (eF a4) r2.length a0]) (z:=.slice (eF a4) r2.length a0) (nw rfl) rfl (i:=0) rfl ai rfl;have A:=A.bare;simp only[List.set_cons_zero,List.length_singleton,List.cons_append]at A;have ak:(Zq w p).take (0+t*1)++[Value.slice (eF a4) r2.length a0]++(Zq w p).drop (0+t*1+1)=(Zq w p).set t (.slice (eF a4) r2.length a0):=by
        rw[List.set_eq_take_append_cons_drop,iP (by rw[oG ao];exact g3)];simp
       rw[ak]at A;have e1:(Zq w p)[U]?= some (.slice (eF a4) r2.length a0):=by
        rw[CX j2 j3,j4]
       have a3:Le b n a l n a (⟨u2,q,.mid R a9 s p hv (.swp t U)⟩ :: era l u2):=Le.upd Q E (Zb.le_refl _) (λ_ _=>rfl) ⟨rfl,rfl,⟨_,_,_,_,D,D,λ_=>⟨rfl,rfl,rfl⟩⟩,λv=>absurd v hn⟩;subst ho;exact vA (Q.upd hX (Q.ul _ hm).1 h2 A a3 (λ_ _=>rfl) ⟨some W,S,w,av,_,av,D,X,⟨rfl,g3,_,e1,rfl⟩,rfl⟩ (List.Perm.refl _) (Q.ul _ hm).2.2) hU rfl (a6 ad ae) f
      ·exact f.elim
     |mid R a9 s p hv sm=>
      cases sm with
      |hol _=>exact f.elim
      |swp i0 j0=>
       simp only at f;split at f
       ·rename_i bu bh;have bu:=eH bu;have bh:=eH bh;subst bu bh;obtain⟨_,C,_,X,f⟩:=f;have C:t=j0:=by
         unfold jY at C;split at C
         ·assumption
         ·cases C
        have X:U=i0:=by
         unfold jY at X;split at X
         ·assumption
         ·cases X
        subst C X;obtain⟨W,S,w,D,rfl,g3,g4⟩:=hy;obtain⟨b2,al,ct,a4,a0,j1,j2,rfl,⟨rj,j3,j4⟩,_⟩:=db _ E rfl;rw[D]at j1;cases j1;obtain⟨es,E',h1,h2,_,h3,_⟩:=Q.del E;obtain⟨I,H,cu,av,ey,dl,C,X,⟨rfl,q3,hx,q4,rfl⟩,rfl⟩:=h1;have C:a u2= .mat I H cu:=C;rw[D]at C;cases C;have ao:=xg X;have hs:=Q.st.perm h3;obtain⟨σ,a7,ad,ae⟩:=hs.ev2 G ζ;rw[a2]at ad;rw[bm]at ae;have ai:0+t*1+([Value.slice (eF a4) r2.length a0]:List Value).length≤((Zq w p).set U hx).length:=by
         rw[List.length_set,oG ao];simp only[List.length_singleton];omega
        obtain⟨w',a6,A⟩:=pK (P:=o) a7 (b4 _) (cs:=[Value.slice (eF a4) r2.length a0]) (z:=.slice (eF a4) r2.length a0) (nw rfl) rfl (i:=0) rfl ai rfl;have A:=A.bare;simp only[List.set_cons_zero,List.length_singleton,List.cons_append]at A;have ak:((Zq w p).set U hx).take (0+t*1)++[Value.slice (eF a4) r2.length a0]++((Zq w p).set U hx).drop (0+t*1+1)=((Zq w p).set U hx).set t (.slice (eF a4) r2.length a0):=by
         rw[List.set_eq_take_append_cons_drop (l:=(Zq w p).set U hx),iP (by rw[List.length_set,oG ao];exact g3)];simp
        rw[ak]at A;obtain⟨pi,da⟩:∃x,w[t]?= some x:=⟨_,List.getElem?_eq_getElem (by omega)⟩;obtain⟨ri,dc⟩:∃aq,p[t]?= some aq:=⟨_,List.getElem?_eq_getElem g3⟩;have dz:hx=o4 pi ri:=by
         rw[CX da dc]at q4;exact(Option.some.inj q4).symm
        have dy:Value.slice (eF a4) r2.length a0=o4 (a4,a0) rj:=by unfold o4;rw[j4]
        obtain⟨w1,dm,w2,w3⟩:=ZqC X j2 da j3 dc;rw[dz,dy,w1]at A;have d9:(nF p U t).length=p.length:=by unfold nF;simp
        have ap:St N j c [] (.own (some W) R 1 (nF p U t).length S (Zq ((w.set U pi).set t (a4,a0)) (nF p U t)) :: dm++E'.flatten) n m w':=by
         rw[d9];refine A.perm ?_;simp only[List.cons_append];exact List.Perm.cons _ (List.Perm.append_right _ w2.symm)
        have a3:Le b n a l n (lF a u2 (.mat (some W) S ((w.set U pi).set t (a4,a0)))) (⟨u2,q,.mat R a9 s (nF p U t) q⟩ :: era l u2):=Le.upd Q E (Zb.le_refl _) (λ_ a5=>kP a5) ⟨rfl,d9,⟨_,_,_,_,D,iR,λv=>absurd v hn⟩,λv=>absurd v hn⟩;subst ho;exact vA (Q.upd hX (Q.ul _ hm).1 h2 ap a3 (λ_ a5=>kP a5) ⟨some W,S,_,_,iR,w3,rfl⟩ (List.Perm.refl _) hX) hU rfl (a6 ad ae) f
       ·exact f.elim
     |box _ _=>exact f.elim
     |own _ _ _ _=>exact f.elim
    ·exact f.elim
   · -- an element of m row
    rename_i u t U hv dg s aq x0 a8;split at f
    ·rename_i z hz;obtain⟨yy,a2,_,hy⟩:=fW hp (λ_ v=>by cases v) rfl rfl;have a2:m.eval G=yy:=(List.cons.inj a2).1;obtain⟨⟨kz,fa,Lz⟩,d8,f⟩:=f;have dr:∃ty a9 F p hv,Lz= .mat ty a9 F p hv:=by
      cases Lz with
      |mat ty a9 F p hv=>exact⟨_,_,_,_,_,rfl⟩
      |_=>exact f.elim
     obtain⟨_,_,_,_,_,rfl⟩:=dr;obtain⟨y1,l1,ah,v1,dd,hB,r1,bi,C⟩:=pp hn hX FU f Q (DO FU hz trivial bf);obtain⟨en,E,hC⟩:=hB;have cb:=jD bi hk hp;obtain⟨cw,ar,_,bg⟩:=fW cb (λ_ v=>by cases v) rfl rfl;have ar:m.eval G=cw:=(List.cons.inj ar).1;have bg:=bg en E;obtain⟨y,st,L⟩:=en;obtain⟨hm,a1⟩:=Zv E;have a1:y=u:=a1;subst a1
     cases L with
     |mat R a9 s' p e8=>
      simp only at hC;split at hC
      ·rename_i bq br;have bq:=eH bq;have br:=eH br;subst bq br;split at hC
       ·rename_i r' cg;obtain⟨ob,S,w,d2,a0,D,g2,rfl,_,g4,g6⟩:=bg rfl;obtain⟨⟨m',c1,c2⟩,cx⟩:=g6 rfl;obtain⟨c3,c4⟩:=fK c1
        cases c3;cases c4
        have cg:aq.set U y1=r':=by
         obtain⟨ei,de⟩:=fK cg;exact de
        subst cg;obtain⟨⟨k0,fR,L0⟩,b8,b6⟩:=bi.l _ _ hk.1 E;obtain⟨es,E',h1,h2,_,h3,_⟩:=r1.del E;obtain⟨b2,al,ct,av,Y,f2,rfl⟩:=h1;have Y:ah y= .mat b2 al ct:=Y;rw[D]at Y;cases Y
        cases L0 with
        |mat cv ag t1 m1 f0=>
         obtain⟨d1,di,⟨f4,ej,f5,f6,d3,d4,d5⟩,d6⟩:=b6;obtain⟨eq,dj⟩:=d6 hk.2.2
         cases dj
         obtain⟨er,dh,_⟩:=d5 hk.2.1;rw[D]at d4;cases d4;subst dh;obtain⟨aa,b5,bc⟩:=RS Q b8 d3 g2 c2 cx;obtain⟨c',bx,bz⟩:=RS r1 E D g2 c2 cx;have P:=FQ bc bz ((ee.len _ b5).trans (ee.len _ bx).symm);obtain⟨cy,_,ef⟩:=M9 hz b5 b7 bf;have X:=C _ cy;rw[aj]at X ef;obtain⟨au,ea,eb,k1,Z,k3⟩:=Oo f2 g2 c2;subst k1;have hs:St N j c [] (.own (some d2) a9 s.n aq.length a0 au :: .own ob R 1 p.length S (Zq w p) :: (ea++eb++E'.flatten)) v1 m g:=by
          refine r1.st.perm (h3.trans ?_);simp only[List.cons_append,fj];exact(List.Perm.cons _ List.perm_middle).trans (List.Perm.swap _ _ _)
         have am:=hO Z cx;rw[ZK]at am;have az:=ee.len _ am;have b9:=ee.len _ b5;rw[ZK]at az b9;have dt:(au.drop (U*s.n)).take s.n=aa:=by
          have hw:=pZ hs (j:=0) rfl rfl g4 0 ((au.drop (U*s.n)).take s.n) (by rw[az,List.drop_zero,List.take_take,Nat.min_self]) (by omega);exact FQ (by simpa using hw) bc (az.trans b9.symm)
         obtain⟨σ,a7,P,e2⟩:=hs.ev2 G ζ;rw[ar]at P;rw[bn]at e2;have ak:=T8 Z g4 dt X (ZK s).symm (by omega);have c0:0+U*s.n+a8+sz.1≤au.length:=Vf hs (j:=0) rfl g4 (by omega);obtain⟨w',a6,A⟩:=pK (P:=o) a7 hS bj aj (i:=0) rfl c0 ba;rw[aj]at A;have A:=A.bare;obtain⟨k4,k5⟩:=k3 (aq.set U y1) _ (List.length_set ..) ak;have ap:St N j c [] (.own ob R 1 (p.set t (aq.set U y1)).length S (Zq w (p.set t (aq.set U y1))) :: (ea ++ .own (some d2) a9 s.n aq.length a0 (au.take (0+U*s.n+a8)++cs++au.drop (0+U*s.n+a8+sz.1)) :: eb)++E'.flatten) v1 m w':=by
          rw[List.length_set,k4];refine A.perm ?_;simp only[List.set_cons_zero,List.cons_append,fj];exact(List.Perm.swap _ _ _).trans (List.Perm.cons _ List.perm_middle.symm)
         have a3:Le b v1 ah l1 v1 ah (⟨y,q,.mat R a9 s (p.set t (aq.set U y1)) e8⟩ :: era l1 y):=Le.upd r1 E (Zb.le_refl _) (λ_ _=>rfl) ⟨rfl,by simp,⟨_,_,_,_,D,D,λ_=>⟨rfl,rfl,ZkE c2 (List.length_set ..)⟩⟩,λv=>absurd v hn⟩;subst ho;exact vA (r1.upd hX (r1.ul _ hm).1 h2 ap a3 (λ_ _=>rfl) ⟨ob,S,w,_,D,k5,rfl⟩ (List.Perm.refl _) (r1.ul _ hm).2.2) hU rfl (a6 P e2) hC
        |box _ _=>exact b6.elim
        |mid _ _ _ _ _ _=>rw[b8]at d8;cases d8
        |own _ _ _ _=>exact b6.elim
       ·exact hC.elim
      ·exact hC.elim
     |box _ _=>exact hC.elim
     |mid _ _ _ _ _ _=>exact hC.elim
     |own _ _ _ _=>exact hC.elim
    ·exact f.elim
   ·exact f.elim
  ·exact f.elim
def oP:ee Value where
 n:=1
 agg:=false
 rel _ cs x:=cs=[x]∧plain x=true
 len h:=by rw[h.1];rfl
 mono _ h:=h
 flat h:=by obtain⟨h1,h2⟩:=h;rw[h1];simp[h2]
theorem Na:∀{l:List Value},l.all plain=true→oP.rels c l l
 |[],_=>rfl
 |x :: l,h=>by
  simp only[List.all_cons,Bool.and_eq_true]at h
  exact⟨[x],l,rfl,⟨rfl,h.1⟩,Na h.2⟩
theorem Ll:∀{l a:List Value},oP.rels c a l→a=l
 |[],a,h=>h
 |x :: l,a,h=>by
  obtain⟨f,g,b,d,e⟩:=h
  rw[b,d.1,Ll e];rfl
theorem KS:∀{rows:List (Option Nat×Nat)} {m:List (List p)},(Zq rows m).all plain=true
 |[],_=>rfl
 |_ :: _,[]=>rfl
 |a :: b,r :: c=>by
  have:=KS (rows:=b) (m:=c)
  simp only[Zq,List.all_cons,this,Bool.and_true]
  obtain⟨ob,d⟩:=a
  cases ob <;> rfl
theorem NZ:∀{rows rows2:List (Option Nat×Nat)} {m m2:List (List p)},rows.length=m.length→Zq (rows++rows2) (m++m2)=Zq rows m++Zq rows2 m2
 |[],_,[],_,_=>rfl
 |c :: a,rows2,r :: b,m2,h=>by
  have:=NZ (rows:=a) (rows2:=rows2) (m:=b) (m2:=m2) (by simpa using h)
  simp[Zq,this]
 |[],_,_ :: _,_,h=>by cases h
 |_ :: _,_,[],_,h=>by cases h
theorem PI:∀{e d:List (Option Nat×Nat)} {m b:List (List t.den)} {es a:List dY},gk c l t e m es→gk c l t d b a→gk c l t (e++d) (m++b) (es++a)
 |[],_,[],_,es,_,h,k=>by rw[show es=[] from h];exact k
 |p :: o,d,r :: q,b,es,a,⟨f,g,i,j,n⟩,k=>by
  subst j
  exact⟨f,g++a,i,rfl,PI n k⟩
 |[],_,_ :: _,_,_,_,h,_=>h.elim
 |_ :: _,_,[],_,_,_,h,_=>h.elim
theorem ZhE{es:List dY}(h:gk c l t A D es)(hp:A[f]?= some X)(i:D[f]?= some w):
  ∃ a b e,es=b ++ .own X.1 l t.n w.length X.2 a :: e∧b.length=f∧t.rep.rels c a w:=by
 obtain⟨m,n,j⟩:=xJ.1 h;obtain⟨a,k,d⟩:=j f X w hp i;have g:=(List.getElem?_eq_some_iff.1 d).1;refine⟨a,es.take f,es.drop (f+1),?_,by simp;omega,k⟩;rw[←(List.getElem?_eq_some_iff.1 d).2,←List.drop_eq_getElem_cons g,List.take_append_drop]
theorem Hp{N:Nat}{u:Act}(D:dZ N e j c b h r k u g a n d)(z:∀s,b s→h s)(p:h q)(B:¬b q){m:List (List t.den)}{rows:List (Option Nat×Nat)}{ob:Option Nat}{es w:List dY}{E:List (List dY)}(A:∀s,K.dst=some s→s<N)(x:F2 (gQ n a k) k E)(M:w=E.flatten)(y:gk n F t rows m es)(J:St N j c [] (.own ob l 1 m.length I (Zq rows m) :: es++w) n u L)(H:(execOp u.eval K).run o g= .ok (.value (.slice (eF ob) m.length I)) L)(f:Zn q (Ev.new q (.mat l F t m q) (ret K (.own q))) r k i):gP o N e j c h K u g i:=by
 obtain⟨C,f⟩:=f;have G:=D.new (γ':=lF a q (.mat ob I rows)) (L':=.mat l F t m q) p p B C x J (Zb.le_refl _) (λ_ f=>kP f) ⟨ob,I,rows,es,iR,y,rfl⟩ (by rw[M]) p;refine gr (x:=.own q) (G.mono z λ_ f=>f) H A p ⟨[_],⟨_,rfl,by cases ob <;> rfl,λO v=>?_⟩,rfl⟩ p f;rw[ZU,iP rfl]at v;cases v;exact⟨_,_,_,iR,rfl⟩
theorem dZ.take{N:Nat}(i:dZ N e j c b h r k m g a n d)(O:h q)(S:¬b q)(u:eC k I=some ⟨I,Q,.mat l F t D W⟩){ob:Option Nat}(v:a I= .mat ob ξ A)(hp:A[α]?= some X)(R:D[α]?= some w):
  ∃ o B p,t.rep.rels n o w∧dZ N e j c b h r (⟨I,q,.mid l F t D W (.hol α)⟩ :: era k I) m g a n B∧F2 (gQ n a (⟨I,q,.mid l F t D W (.hol α)⟩ :: era k I)) (⟨I,q,.mid l F t D W (.hol α)⟩ :: era k I) p∧B=p.flatten∧St N j c [] (.own X.1 F t.n w.length X.2 o :: B) n m g:=by
 obtain⟨es,p,K,L,_,M,_⟩:=i.del u;obtain⟨a0,H,a1,a2,s,C,rfl⟩:=K;have s:a I= .mat a0 H a1:=s;rw[v]at s;cases s;obtain⟨o,y,z,Y,Z,k3⟩:=ZhE C hp R;subst Y;have hs:St N j c [] (.own X.1 F t.n w.length X.2 o :: (.own ob l 1 D.length ξ (Zq A D) :: (y++z)++p.flatten)) n m g:=by
  refine i.st.perm (M.trans ?_);simp only[List.cons_append,fj];exact(List.Perm.cons _ List.perm_middle).trans (List.Perm.swap _ _ _)
 have P:Le b n a k n a (⟨I,q,.mid l F t D W (.hol α)⟩ :: era k I):=Le.upd i u (Zb.le_refl _) (λ_ _=>rfl) ⟨rfl,rfl,⟨_,_,_,_,v,v,λ_=>⟨rfl,rfl,rfl⟩⟩,λJ=>absurd J S⟩;have U:gQ n a (⟨I,q,.mid l F t D W (.hol α)⟩ :: era k I) ⟨I,q,.mid l F t D W (.hol α)⟩ (.own ob l 1 D.length ξ (Zq A D) :: (y++z)):=⟨ob,ξ,A,_,_,_,v,C,⟨rfl,y,_,z,rfl,Z,rfl⟩,rfl⟩;have f:=i.upd O (i.ul _ (Zv u).1).1 L (hs.drop (List.sublist_cons_self _ _)) P (λ_ _=>rfl) U (List.Perm.refl _) (i.ul _ (Zv u).1).2.2;obtain⟨x,E,G⟩:=f.lr;exact⟨o,x.flatten,x,k3,⟨f.st.perm G,f.fr,⟨x,E,List.Perm.refl _⟩,f.nd,f.uf,f.ul,f.gh⟩,E,rfl,hs.perm (List.Perm.cons _ G)⟩
end Go.Eng
