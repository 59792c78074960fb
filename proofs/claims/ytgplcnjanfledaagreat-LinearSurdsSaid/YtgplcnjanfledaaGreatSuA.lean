/- Lemmas towards the statement: the engine of the walks, the functions' models, laws and walks, part 1. Conditions: as each states. -/
import Derived.Deep.Slices
import Derived.Laws.BytesArg
import Derived.Laws.Concat
import Derived.Laws.Externs
import Derived.Laws.Strings3
import Derived.Laws.StructEq
import Derived.Lib.Mul64
import Derived.OpenShut
import Derived.ProofKit
import Derived.StillTail
import Derived.WalkKit
set_option linter.all false
set_option maxHeartbeats 4000000
set_option maxRecDepth 100000
namespace Go.Eng
open Go.RowKit
variable {i:Act}{Z:Act→World→Prop}{J z η:Array Bool}{t:Array Edge}{k:Array Oper}{X:Array Operand}{Y:Array TypeId}{C:Array Value}{a1:BinOp}{G:Bool}{μ:Code}{f:Exit→Act→World→Prop}{π:Func}{L:FuncId}{K y ξ:Int}{a2 u:IntKind}{α:Int×Int}{a:List (Nat×Value)}{Ξ:List Go.Value}{H:List Int}{Λ:List Nat}{p:List Oper}{R Γ:List UInt8}{P a0 m:List Value}{A N Q a3 d n κ:Nat}{Θ:Nat×Nat}{ω:Nat→Option Bool}{χ:Obj}{w:Oper}{x ε:Operand}{o:Option (Nat×Bool)}{U:Option Addr}{s:Option Nat}{e:Program}{Φ:Prop}{ψ:Rat}{v:String}{r θ:Type}{D φ:List r}{B j ζ:TypeId}{Ψ:Unit}{q τ:Value}{S:Value→World→Prop}{F c:World}{O:r}{I:r→Option (r ⊕ θ)}{Δ:θ}
theorem eg[Decidable Φ](h : ¬Φ): decide Φ= false := decide_eq_false h
theorem eo[Decidable Φ](h : Φ): decide Φ= true := decide_eq_true h
theorem iP{h:Decidable Φ}(k : Φ){a:Sort _}{t e:a}: ite Φ t e= t := if_pos k
theorem iN{h:Decidable Φ}(k : ¬Φ){a:Sort _}{t e:a}: ite Φ t e= e := if_neg k
theorem oZ(h : 0≤ y): ∃n : Nat, y= n := Int.eq_ofNat_of_zero_le h
theorem mG{b : Type _}{l : List b}{i : Nat}{a : b}(e : l[i]?= some a): a ∈ l := List.mem_of_getElem? e
theorem mR(k : Nat)(h : d≤ n): d * k≤ n * k := Nat.mul_le_mul_right k h
theorem lB{n m : Nat}(h : Nat.ble n m= true): n≤ m := Nat.le_of_ble_eq_true h
theorem fj{d : Type _}(a b c : List d): a ++ b ++ c= a ++ (b ++ c) := List.append_assoc a b c
theorem lA{c : Type _}{a b : List c}: (a ++ b).length= a.length + b.length := List.length_append
theorem tN(n : Nat): (n : Int).toNat= n := Int.toNat_natCast n
theorem eH(h : Nat.beq d n= true): d= n := Nat.eq_of_beq_eq_true h
def Zb:=Nat→Option Obj
variable {M:Value→Zb→Prop}{δ:Value→Zb→World→Prop}{g l Ω:Zb}
def Zb.le(v a:Zb):Prop:=∀b o,v b=some o→a b=some o
theorem Zb.le_refl(v:Zb):v.le v:=λ_ _ h=>h
theorem Zb.le_trans(h:g.le l)(k:l.le Ω):g.le Ω:=λx o e=>k x o (h x o e)
def fc(v:Zb)(w:World):Prop:=∀b o,v b=some o→w.heap[b]?= some o
theorem fc.lt(h:fc g c)(e:g d=some χ):d<c.heap.size:=by
 have:=h d χ e;rcases Nat.lt_or_ge d c.heap.size with a |a
 ·exact a
 ·simp[Array.getElem?_eq_none a]at this
theorem fc.none(h:fc g c)(e:c.heap.size≤d):g d=none:=by
 cases a:g d with
 |none=>rfl
 |some o=>have:=h.lt a;omega
def fD(w a:World):Prop:=Below w.heap.size w a
theorem fD.refl(w:World):fD w w:=Below.refl _ _
theorem fD.trans{a:World}(h:fD c F)(k:fD F a):fD c a:=Below.trans h (Below.mono k h.size)
theorem fD.size(h:fD c F):c.heap.size≤F.heap.size:=Below.size h
theorem fD.get(h:fD c F)(e:c.heap[d]?= some χ):F.heap[d]?= some χ:=by
 have b:d<c.heap.size:=by
  rcases Nat.lt_or_ge d c.heap.size with a |a
  ·exact a
  ·simp[Array.getElem?_eq_none a]at e
 rw[Below.block h d b];exact e
theorem fD.alloc(w:World)(o:Obj):fD w (w.alloc o):=Below.alloc (Below.refl _ _) (Nat.le_refl _) o
theorem fD.drew(w:World):fD w w.drew:=Below.drew (Below.refl _ _)
structure eL(w:World)(v:Zb)(w':World)(v':Zb):Prop where
 le:v.le v'
 vin:fc v' w'
 old:∀b,b<w.heap.size→v' b=v b
theorem eL.refl(h:fc g c):eL c g c g:=⟨Zb.le_refl _,h,λ_ _=>rfl⟩
theorem eL.trans{a:World}(hs:c.heap.size≤F.heap.size)(h:eL c g F l)(k:eL F l a Ω):eL c g a Ω :=
 ⟨Zb.le_trans h.le k.le,k.vin,λn b=>(k.old n (by omega)).trans (h.old n b)⟩
theorem eL.ext(h:fc g c)(k:fD c F):eL c g F g:=⟨Zb.le_refl _,λb o e=>k.get (h b o e),λ_ _=>rfl⟩
structure dW where
 wd:World
 lent:List Nat
variable {h:dW}
instance:Coe World dW:=⟨λw=>⟨w,[]⟩⟩
structure fb(z:dW)(w:World):Prop where
 os:w.os=z.wd.os
 tape:w.tape=z.wd.tape
 output:w.output=z.wd.output
 size:z.wd.heap.size≤w.heap.size
 block:∀k,k<z.wd.heap.size→k ∉ z.lent→w.heap[k]?= z.wd.heap[k]?
theorem fb.refl(z:dW):fb z z.wd:=⟨rfl,rfl,rfl,Nat.le_refl _,λ_ _ _=>rfl⟩
theorem fb.trans(a:fb h c)(k:fD c F):fb h F :=
 ⟨k.os.trans a.os,k.tape.trans a.tape,k.output.trans a.output,Nat.le_trans a.size k.size,λi b d=>(k.block i (Nat.lt_of_lt_of_le b a.size)).trans (a.block i b d)⟩
theorem fb.ext(h:fb (c:dW) F):fD c F:=⟨h.os,h.tape,h.output,h.size,λk a=>h.block k a (by simp)⟩
structure eO(z:dW)(v:Zb)(w':World)(v':Zb):Prop where
 le:v.le v'
 vin:fc v' w'
 old:∀b,b<z.wd.heap.size→b ∉ z.lent→v' b=v b
theorem eO.trans(hs:h.wd.heap.size≤c.heap.size)(a:eO h g c l)(k:eL c l F Ω):eO h g F Ω :=
 ⟨Zb.le_trans a.le k.le,k.vin,λn d b=>(k.old n (by omega)).trans (a.old n d b)⟩
theorem eO.ext(h:eO (c:dW) g F l):eL c g F l:=⟨h.le,h.vin,λk a=>h.old k a (by simp)⟩
def fM(P:Program)(f:FuncId)(c:Array Value)(w:World)(v:Zb)(R:Value→Zb→Prop):Prop :=
 Calls P f c w λe b=>∃r a,e= .returned r∧fD w b∧eL w v b a∧R r a
theorem fM.mono{b:Value→Zb→Prop}(h:fM e L C c g M)(k:∀r a,g.le a→M r a→b r a):fM e L C c g b :=
 Calls.mono h λ_ _ ⟨r,a,d,x,s,q⟩=>⟨r,a,d,x,s,k r a s.le q⟩
def plain:Value→Bool
 |.agg _ |.tuple _=>false
 |_=>true
def look:List (Nat×Value)→Nat→Option Value
 |[],_=>none
 |(k,x) :: r,t=>bif Nat.beq k t then some x else look r t
theorem v7{k:Nat}(h:k=n):look ((k,q) :: a) n=some q:=by
 subst h;simp[look]
theorem Cj{k:Nat}(h:k≠n):look ((k,q) :: a) n=look a n:=by
 have b:Nat.beq k n=false:=by
  cases b:Nat.beq k n with
  |false=>rfl
  |true=>exact absurd (eH b) h
 simp[look,b]
def ev(a:List (Nat×Value)):Operand→Option Value
 |.tmp t=>look a t
 |.const c=>some c
 |.global g=>some (.pointer (some ⟨g,0,none⟩))
 |.func f=>some (.func (.func f) #[] #[])
inductive dY where
 |box (b:Nat) (T:TypeId) (cs:List Value)
 |own (b:Option Nat) (T:TypeId) (sz n cap:Nat) (cs:List Value)
 |mp (b:Nat) (l:List (Value×Value))
 |it (b:Nat) (s:List UInt8) (p:Nat)
variable {b β:List dY}{W a4:dY}
def dY.blk:dY→Option Nat
 |.box b _ _=>some b
 |.own b _ _ _ _ _=>b
 |.mp b _=>some b
 |.it b _ _=>some b
def dY.holds(w:World):dY→Prop
 |.box b T a=>w.heap[b]?= some (.cells a.toArray T (0,0))
 |.own none _ _ n d a=>n=0∧d=0∧a=[]
 |.own (some b) T sz n d a=>a.length=n*sz∧∃f:Array Value,w.heap[b]?= some (.cells f T (0,0))∧n≤d∧d≤maxLen∧f.size=d*sz∧f.toList.take (n*sz)=a
 |.mp b l=>∃es c,w.heap[b]?= some (.map es c)∧es.toList.map (λe=>(e.key,e.val))=l
 |.it b s p=>w.heap[b]?= some (.stringIter ⟨s.toArray⟩ p)
theorem dY.holds_ext(h:fD c F)(k:W.holds c):W.holds F:=by
 cases W with
 |box b T f=>exact h.get k
 |own b T sz n i f=>
  cases b with
  |none=>exact k
  |some b=>obtain⟨d,a,e,g⟩:=k;exact⟨d,a,h.get e,g⟩
 |mp b l=>obtain⟨es,a,d,e⟩:=k;exact⟨es,a,h.get d,e⟩
 |it b s p=>exact h.get k
theorem dY.blk_get(k:W.holds c)(a:W.blk=some d):∃o,c.heap[d]?= some o:=by
 cases W with
 |box b T f=>cases a;exact⟨_,k⟩
 |own b T sz n i f=>cases a;obtain⟨_,e,h,_⟩:=k;exact⟨_,h⟩
 |mp b l=>cases a;obtain⟨es,e,g,_⟩:=k;exact⟨_,g⟩
 |it b s p=>cases a;exact⟨_,k⟩
theorem qO(h:c.heap[d]?= some χ):d<c.heap.size:=by
 rcases Nat.lt_or_ge d c.heap.size with a |a
 ·exact a
 ·simp[Array.getElem?_eq_none a]at h
structure St(K:Nat)(w0:dW)(v0:Zb)(σ:List (Nat×Value))(ℓ:List dY)(v:Zb)(a:Act)(w:World):Prop where
 size:a.tmps.size=K
 dfr:a.defers=[]
 fr:∀t x,look σ t=some x→a.tmps.getD t undef=x
 ext:fb w0 w
 vst:eO w0 v0 w v
 loc:∀e ∈ ℓ,e.holds w∧∀b,e.blk=some b→(w0.wd.heap.size≤b∨b ∈ w0.lent)∧v b=none
 nd:(ℓ.filterMap dY.blk).Nodup
theorem St.eval(j:St d h g a b l i c)(e:ev a x=some q):i.eval x=q:=by
 cases x with
 |tmp t=>exact j.fr t q e
 |const k=>exact Option.some.inj e
 |global m=>exact Option.some.inj e
 |func f=>exact Option.some.inj e
theorem St.put(f:St d h g a b l i c)(x:Value)(k:n<d):St d h g ((n,x) :: a) b l (i.put (some n) x) c:=by
 refine⟨by simp[Act.put,f.size],by simp[Act.put,f.dfr],λt y e=>?_,f.ext,f.vst,f.loc,f.nd⟩;by_cases j:n=t
 ·subst j;rw[v7 rfl]at e
  cases e
  simp[Act.put,f.size,k]
 ·rw[Cj j]at e;have:=f.fr t y e
  simpa [Act.put,Array.getElem?_setIfInBounds_ne j] using this
theorem St.frame{j:List (Nat×Value)}(f:St d h g a b l i c)(k:∀t x,look j t=some x→look a t=some x):St d h g j b l i c :=
 ⟨f.size,f.dfr,λt x e=>f.fr t x (k t x e),f.ext,f.vst,f.loc,f.nd⟩
theorem ZiA:∀t x,look [] t=some x→look a t=some x:=λ_ _ h=>by cases h
theorem St.learn(f:St d h g a b l i c)(e:i.tmps.getD n undef=q):St d h g ((n,q) :: a) b l i c :=
 ⟨f.size,f.dfr,λu y k=>by
  by_cases j:n=u
  ·subst j;rw[v7 rfl]at k;cases k;exact e
  ·rw[Cj j]at k;exact f.fr u y k,f.ext,f.vst,f.loc,f.nd⟩
theorem St.vin(e:St d h g a b l i c):fc l c:=e.vst.vin
theorem St.step(f:St d h g a b l i c)(x:fD c F)(s:eL c l F Ω):St d h g a b Ω i F :=
 ⟨f.size,f.dfr,f.fr,f.ext.trans x,eO.trans f.ext.size f.vst s,λe q=>by
  obtain⟨k,n⟩:=f.loc e q
  refine⟨dY.holds_ext x k,λj m=>?_⟩
  obtain⟨o,p⟩:=n j m
  obtain⟨_,r⟩:=dY.blk_get k m
  exact⟨o,by rw[s.old j (qO r)];exact p⟩,f.nd⟩
theorem St.newLoc(f:St d h g a b l i c)(o:Obj){e:dY}(n:e.blk=some c.heap.size)(q:e.holds (c.alloc o)):St d h g a (e :: b) l i (c.alloc o):=by
 have j:=f.step (fD.alloc c o) (eL.ext f.vin (fD.alloc c o));refine⟨j.size,j.dfr,j.fr,j.ext,j.vst,λx k=>?_,?_⟩
 ·rcases List.mem_cons.1 k with rfl |k
  ·refine⟨q,λt m=>?_⟩;rw[n]at m;cases m;exact⟨.inl f.ext.size,f.vin.none (Nat.le_refl _)⟩
  ·exact j.loc x k
 ·rw[List.filterMap_cons_some n];refine List.nodup_cons.2 ⟨λr=>?_,f.nd⟩;obtain⟨x,k,s⟩:=List.mem_filterMap.1 r;obtain⟨_,p⟩:=dY.blk_get (f.loc x k).1 s;have:=qO p;omega
theorem St.drop{ℓ':List dY}(f:St d h g a b l i c)(k:ℓ'.Sublist b):St d h g a ℓ' l i c :=
 ⟨f.size,f.dfr,f.fr,f.ext,f.vst,λe j=>f.loc e (k.subset j),(k.filterMap _).nodup f.nd⟩
theorem St.nilLoc(f:St d h g a b l i c)(T:TypeId)(sz:Nat):St d h g a (.own none T sz 0 0 [] :: b) l i c :=
 ⟨f.size,f.dfr,f.fr,f.ext,f.vst,λe j=>by
  rcases List.mem_cons.1 j with rfl |j
  ·exact⟨⟨rfl,rfl,rfl⟩,λm k=>by cases k⟩
  ·exact f.loc e j,by rw[List.filterMap_cons_none rfl];exact f.nd⟩
def gM(w:World)(b e:Nat)(a:List Value):Prop:=∃c T d,w.heap[b]?= some (.cells c T d)∧(c.toList.drop e).take a.length=a
def At(v:Zb)(b e:Nat)(a:List Value):Prop:=∃c T d,v b=some (.cells c T d)∧(c.toList.drop e).take a.length=a
theorem At.mono(h:g.le l)(k:At g d n m):At l d n m:=by
 obtain⟨c,T,a,b,e⟩:=k;exact⟨c,T,a,h _ _ b,e⟩
theorem St.view(j:St d h g a b l i c)(k:At l n A m):gM c n A m:=by
 obtain⟨e,T,f,o,p⟩:=k;exact⟨e,T,f,j.vin _ _ o,p⟩
theorem St.box(o:St d h g a b l i c){T:TypeId}(k:b[n]?= some (.box A T m))(j:Nat)(f:List Value)(e:(m.drop j).take f.length=f):gM c A j f :=
 ⟨_,_,_,(o.loc _ (mG k)).1,by simpa using e⟩
theorem gM.cell(h:gM c d n m){j:Nat}{x:Value}(k:m[j]?= some x):c.cell? ⟨d,n+j,none⟩=some x:=by
 obtain⟨a,T,g,b,e⟩:=h;have f:j<m.length:=(List.getElem?_eq_some_iff.1 k).1;have:((a.toList.drop n).take m.length)[j]?= some x:=by rw[e];exact k
 rw[List.getElem?_take_of_lt f,List.getElem?_drop]at this;simp only[World.cell?,b,Option.isSome_none,Bool.false_eq_true,if_false]
 simpa using this
theorem gG(b a n:Nat):Addr.add ⟨b,a,none⟩ n=⟨b,a+n,none⟩:=by
 unfold Addr.add;split <;> simp_all
theorem ZG(k:St d h g a b l i c)(f:ev a x=some q):(execOp i.eval ⟨s,.move x,j,v,t,o⟩).run e c= .ok (.value q) c:=by
 simp[execOp,k.eval f]
theorem mg(k:St d h g a b l i c){y:Value}(f:ev a x=some y):(execOp i.eval ⟨s,.assign x,j,v,t,o⟩).run e c= .ok (.value y) c:=by
 simp[execOp,k.eval f]
theorem gF(m:St d h g a b l i c)(f:ev a x=some (.tuple C))(k:C[n]?= some q):
  (execOp i.eval ⟨s,.extract x n,j,v,t,o⟩).run e c= .ok (.value q) c:=by
 simp[execOp,m.eval f,Instr.extract,k]
theorem qv{n:List dY}(k:St d h g a n l i c){y:Operand}{b:Bool}(m:ev a x=some (.bool b))(f:(if b then ev a ε else ev a y)=some q):
  (execOp i.eval ⟨s,.pick x ε y,j,v,t,o⟩).run e c= .ok (.value q) c:=by
 cases b with
 |true=>simp only[if_true]at f;simp[execOp,k.eval m,k.eval f,asBool]
 |false=>simp only[Bool.false_eq_true,if_false]at f;simp[execOp,k.eval m,k.eval f,asBool]
structure eS(P:Program)(t:TypeId)(n:Nat)(agg:Bool):Prop where
 size:∀w,(sizeOf t).run P w= .ok n w
 agg:∀w,(isAgg t).run P w= .ok agg w
theorem Nu{a:Act}{w:World}{d:Option Nat}{ty:TypeId}{pos:String}{aft:Array Edge}{g:Option (Nat×Bool)}(b:∀w,(zeroValue B).run e w= .ok q w):
  (execOp a.eval ⟨d,.alloc B,ty,pos,aft,g⟩).run e w= .ok (.value (.pointer (some ⟨w.heap.size,0,none⟩))) (w.alloc (.cells q.cells B)):=by
 simp[execOp,Instr.alloc,b,newVar,newRow]
theorem Ss{P:Program}{K:Nat}{j:Zb}{d:Option Nat}{ty:TypeId}{pos:String}{aft:Array Edge}{g:Option (Nat×Bool)}(f:St K h j a b l i c){t:TypeId}(e:ev a x=some q):
  (execOp i.eval ⟨d,.box t x,ty,pos,aft,g⟩).run P c= .ok (.value (.pointer (some ⟨c.heap.size,0,none⟩))) (c.alloc (.cells q.cells t)):=by
 simp[execOp,Instr.box,f.eval e,newVar,newRow]
theorem Rr(a:eS e j d true)(f:m.length=d)(b:gM c n A m):
  (loadVar j ⟨n,A,none⟩).run e c= .ok (.agg m.toArray) c:=by
 have:=run_loadCells_list (P:=e) c ⟨n,A,none⟩ m (λg x h=>by rw[gG];exact b.cell h);rw[f]at this;simp[loadVar,a.agg,a.size,this]
theorem NP(b:eS e j d false)(a:gM c n A [q]):
  (loadVar j ⟨n,A,none⟩).run e c= .ok q c:=by
 have:=a.cell (j:=0) (x:=q) rfl;simp only[Nat.add_zero]at this;simp[loadVar,b.agg,this]
theorem PF{K:Nat}{q:Zb}{d:Option Nat}{ty:TypeId}{pos:String}{aft:Array Edge}{g:Option (Nat×Bool)}(j:St K h q a b l i c)(f:ev a x=some (.pointer (some ⟨A,N,none⟩)))(p:eS e B n true)(o:m.length=n)(k:gM c A N m):(execOp i.eval ⟨d,.load B x,ty,pos,aft,g⟩).run e c= .ok (.value (.agg m.toArray)) c:=by
 simp[execOp,Instr.loadAt,Instr.sureAddr,j.eval f,Rr p o k]
theorem jb{K:Nat}{o:Zb}{d:Option Nat}{ty:TypeId}{pos:String}{aft:Array Edge}{g:Option (Nat×Bool)}(j:St K h o a b l i c)(f:ev a x=some (.pointer (some ⟨A,N,none⟩)))(m:eS e B n false)(k:gM c A N [q]):(execOp i.eval ⟨d,.load B x,ty,pos,aft,g⟩).run e c= .ok (.value q) c:=by
 simp[execOp,Instr.loadAt,Instr.sureAddr,j.eval f,NP m k]
def NW(P:Program)(s:TypeId)(f a:Nat):Prop:=∀(b o:Nat) (w:World),(Instr.fieldAt s (.pointer (some ⟨b,o,none⟩)) f).run P w= .ok (.pointer (some ⟨b,o+a,none⟩)) w
theorem WR(k:St d h g a b l i c)(f:ev a x=some (.pointer (some ⟨N,Q,none⟩)))(m:NW e B n A):
  (execOp i.eval ⟨s,.fieldAddr B x n,j,v,t,o⟩).run e c= .ok (.value (.pointer (some ⟨N,Q+A,none⟩))) c:=by
 simp[execOp,k.eval f,m N Q c]
theorem ZnF(k:St d h g a b l i c)(f:ev a x=some q)(m:(Instr.field B q n).run e c= .ok τ c):
  (execOp i.eval ⟨s,.field B x n,j,v,t,o⟩).run e c= .ok (.value τ) c:=by
 simp[execOp,k.eval f,m]
def jf(P:Program)(t e:TypeId)(sz:Nat):Prop:=(∀w,(underlying t).run P w= .ok (.slice e) w)∧∀w,(sizeOf e).run P w= .ok sz w
theorem gB{K:Nat}{p:Zb}{d:Option Nat}{ty:TypeId}{pos:String}{aft:Array Edge}{g:Option (Nat×Bool)}(f:St K h p a b l i c){sz:Nat}(k:ev a x=some (.slice (some ⟨A,N,none⟩) Q κ))(m:ev a ε=some (.int u y))(j:jf e B ζ sz)(n:0≤y)(o:y<Q):(execOp i.eval ⟨d,.indexAddr B x ε,ty,pos,aft,g⟩).run e c= .ok (.value (.pointer (some ⟨A,N+y.toNat*sz,none⟩))) c:=by
 simp[execOp,Instr.indexAt,f.eval k,f.eval m,asIntOf,j.1,j.2,n,o,gG]
theorem iw(m:St d h g a b l i c){sz:Nat}(f:ev a x=some (.slice U A N))(k:Y[0]?= some B)(n:jf e B ζ sz):
  (execOp i.eval ⟨s,.call ⟨.builtin .len,#[x],Y⟩,j,v,t,o⟩).run e c= .ok (.value (.int .i64 A)) c:=by
 simp[execOp,resolve,invoke,builtin,Builtin.len_,m.eval f,k,n.1,goInt]
def jB(P:Program)(o:Oper)(a:Act)(w:World)(J:Value→World→Prop):Prop :=
 match(execOp a.eval o).run P w with
 |.ok (.value x) b=>J x b
 |.ok .skip b=>J undef b
 |.ok (.enter f c) b=>Calls P f c b λe d=>∃r,e= .returned r∧J r d
 |_=>False
theorem qt(h:(execOp i.eval w).run e c= .ok (.value q) F)(k:S q F):jB e w i c S:=by
 unfold jB;rw[h];exact k
theorem Lr(h:(execOp i.eval w).run e c= .ok .skip F)(k:S undef F):jB e w i c S:=by
 unfold jB;rw[h];exact k
theorem o5(h:(execOp i.eval w).run e c= .ok (.enter L C) F)(k:Calls e L C F λa b=>∃r,a= .returned r∧S r b):jB e w i c S:=by
 unfold jB;rw[h];exact k
theorem IU{a:Value→World→Prop}(h:jB e w i c S)(k:∀x b,S x b→a x b):jB e w i c a:=by
 unfold jB at *;split at h
 ·exact k _ _ h
 ·exact k _ _ h
 ·exact h.mono λg j ⟨r,d,f⟩=>⟨r,d,k _ _ f⟩
 ·exact h
theorem Gv{r:Act}(d:execOp r.eval w=execOp i.eval w)(h:jB e w i c S)(k:∀x b,S x b→Z (r.put w.dst x) b):w.wp e r c Z f:=by
 unfold Oper.wp;rw[d];unfold jB at h;split at h
 ·rename_i a;rw[a];exact k _ _ h
 ·rename_i a;rw[a];exact k _ _ h
 ·rename_i a;rw[a,Oper.upon_enter];refine h.mono ?_;rintro j l ⟨x,rfl,g⟩;exact k _ _ g
 ·exact h.elim
def kZ(P:Program)(b:Array Oper)(o:Oper)(a:Act)(w:World):Prop :=
 ∃ d,o.dst=some d∧(Region.wanted o (yielded b a.tmps)=true→(execOp a.eval o).run P w= .ok (.value (a.tmps.getD d undef)) w)∧
  (Region.wanted o (yielded b a.tmps)=false→a.tmps.getD d undef=undef)
def lG(a:Array Oper)(j i:Nat):Bool:=match a[j]? with
 |some o=>o.after.any λe=>Region.binds .any e&&e.on==i
 |none=>false
def NE(a:Array Oper)(b:Array Bool):Bool :=
 (b.size==a.size) &&
 ((List.range a.size).all λi=>match a[i]? with
  |some o=>(o.after.all λe=>!Region.binds .any e ||decide (e.on<i))&&(match o.op with |.select _ _=>false |_=>true)
  |none=>false) &&
 ((List.range a.size).all λg=>!b.getD g false ||match a[g]? with
  |some o=>(match o.dst with
   |some d=>(List.range a.size).all λj=>match a[j]? with
    |some c=>(!(c.looksAt a).contains d ||lG a j g)&&(j==g ||c.dst != some d)
    |none=>true
   |none=>false)
  |none=>false)
structure kY(ops:Array Oper)(fl:Array Bool):Prop where
 back:∀(i:Nat) (o:Oper),ops[i]?= some o→∀e ∈ o.after,Region.binds .any e=true→e.on<i
 nosel:∀(i:Nat) (o:Oper),ops[i]?= some o→∀cs b,o.op≠Op.select cs b
 look:∀(g:Nat) (o:Oper) (d:Nat),ops[g]?= some o→fl.getD g false=true→o.dst=some d→∀(j:Nat) (oj:Oper),ops[j]?= some oj→d ∈ oj.looksAt ops→lG ops j g=true
 sole:∀(g:Nat) (o:Oper) (d:Nat),ops[g]?= some o→fl.getD g false=true→o.dst=some d→∀(j:Nat) (oj:Oper),ops[j]?= some oj→j≠g→oj.dst≠some d
 dst:∀(g:Nat) (o:Oper),ops[g]?= some o→fl.getD g false=true→∃d,o.dst=some d
theorem YZ(h:NE k z=true):kY k z:=by
 simp only[NE,Bool.and_eq_true,List.all_eq_true,List.mem_range]at h;obtain⟨⟨_,y⟩,A⟩:=h;have lt:∀{i o},k[i]?= some o→i<k.size:=λe=>(Array.getElem?_eq_some_iff.1 e).1;have s:∀(g:Nat) (o:Oper),k[g]?= some o→z.getD g false=true→∃d,o.dst=some d∧∀(j:Nat) (c:Oper),k[j]?= some c→((d ∈ c.looksAt k→lG k j g=true)∧(j≠g→c.dst≠some d)):=by
  intro g o a l;have:=A g (lt a);simp only[l,Bool.not_true,Bool.false_or,a]at this
  cases m:o.dst with
  |none=>simp[m]at this
  |some d=>
   simp only[m,List.all_eq_true,List.mem_range]at this;refine⟨d,rfl,λj c n=>?_⟩;have t:=this j (lt n);simp only[n,Bool.and_eq_true,Bool.or_eq_true,Bool.not_eq_true',beq_iff_eq,bne_iff_ne]at t;refine⟨λu=>?_,λv=>?_⟩
   ·rcases t.1 with q |q
    ·simp at q;exact absurd u q
    ·exact q
   ·rcases t.2 with x |x
    ·exact absurd x v
    ·exact x
 refine⟨λi o p e D B=>?_,λi o p E b C=>?_,λg o d a l m j c n u=>?_,λg o d a l m j c n v=>?_,λg o a l=>?_⟩
 ·have:=y i (lt p);simp only[p,Bool.and_eq_true,Array.all_eq_true']at this;have t:=this.1 e D
  simpa [B] using t
 ·have:=y i (lt p);simp[p,C]at this
 ·obtain⟨r,f,w⟩:=s g o a l;rw[m]at f;cases f;exact(w j c n).1 u
 ·obtain⟨r,f,w⟩:=s g o a l;rw[m]at f;cases f;exact(w j c n).2 v
 ·obtain⟨r,f,_⟩:=s g o a l;exact⟨r,f⟩
structure IM(P:Program)(ops:Array Oper)(fl E listed:Array Bool)(a r:Act)(w:World):Prop where
 size:listed.size=ops.size
 sub:∀j,listed.getD j false=true→E.getD j false=true
 closed:∀(j:Nat) (o:Oper),ops[j]?= some o→listed.getD j false=true→∀e ∈ o.after,Region.binds .any e=true→listed.getD e.on false=true
 pend:∀(j:Nat) (o:Oper),ops[j]?= some o→E.getD j false=true→listed.getD j false=false→fl.getD j false=true∧kZ P ops o a w
 tmps:r.tmps.size=a.tmps.size
 dfr:r.defers=a.defers
 agree:∀t,(∀(j:Nat) (o:Oper),ops[j]?= some o→E.getD j false=true→listed.getD j false=false→o.dst≠some t)→r.tmps.getD t undef=a.tmps.getD t undef
def left(a:Array Bool):Nat:=(a.toList.filter (! ·)).length
def Rg(P:Program)(b:Array Oper)(Q:Exit→Act→World→Prop)(f E:Array Bool)(a:Act)(w:World):Prop :=
 E.size=b.size→(∀(j:Nat) (o:Oper),b[j]?= some o→E.getD j false=true→∀e ∈ o.after,Region.binds .any e=true→E.getD e.on false=true)→
 ∀ d c r,left c=d→IM P b f E c a r w→wpAny P .any b Q d c r w
theorem BS(h:z.getD d true=false):left (z.setIfInBounds d true)+1=left z:=by
 have c:d<z.size:=by
  rcases Nat.lt_or_ge d z.size with b |b
  ·exact b
  ·simp[Array.getElem?_eq_none b]at h
 have a:z.toList[d]?= some false:=by
  simp[c]at h;simp[c,h]
 unfold left;rw[Array.toList_setIfInBounds];generalize z.toList=l at a;clear h c
 induction l generalizing d with
 |nil=>simp at a
 |cons x l e=>
  cases d with
  |zero=>simp at a;subst a;simp
  |succ d=>
   simp at a;have:=e a
   cases x <;> simp at this ⊢ <;> omega
theorem iG(a:d<z.size):z.getD d true=z.getD d false:=by simp[a]
theorem GX(h:left z=0){j:Nat}:z.getD j true=true:=by
 unfold left at h;have b:∀x ∈ z.toList,x=true:=by
  intro x c;have:=List.filter_eq_nil_iff.1 (List.length_eq_zero_iff.1 h) x c
  simpa using this
 rcases Nat.lt_or_ge j z.size with a |a
 ·have:=b z[j] (by simp);simp[a,this]
 ·simp[Array.getElem?_eq_none a]
theorem IM.eval{r:Act}(n:kY k z)(s:IM e k z J η i r c)(f:k[d]?= some w)(hp:∀a ∈ w.after,Region.binds .any a=true→η.getD a.on false=true):execOp r.eval w=execOp i.eval w∧Region.wanted w (yielded k r.tmps)=Region.wanted w (yielded k i.tmps):=by
 have v:∀t,t ∈ w.looksAt k→r.tmps.getD t undef=i.tmps.getD t undef:=by
  intro t l;refine s.agree t λj y p B q C=>?_;have E:=(s.pend j y p B q).1;have:=n.look j y t p E C d w f l;simp only[lG,f]at this;obtain⟨a,D,b⟩:=Array.any_eq_true'.1 this;simp only[Bool.and_eq_true,beq_iff_eq]at b;have:=hp a D b.1;rw[b.2,q]at this;cases this
 constructor
 ·refine execOp_congr w (n.nosel d w f) λx G=>?_
  cases x with
  |tmp t=>exact v t (List.mem_append_left _ (List.mem_filterMap.2 ⟨.tmp t,by simpa using G,rfl⟩))
  |_=>rfl
 ·unfold Region.wanted
  cases F:w.guard with
  |none=>rfl
  |some A=>
   obtain⟨g,I⟩:=A;have H:yielded k r.tmps g=yielded k i.tmps g:=by
    unfold yielded
    cases l:(k[g]?).bind (·.dst) with
    |none=>rfl
    |some t=>
     have m:=v t (by simp[Oper.looksAt,F,l]);simp only[Option.bind_some];rcases Nat.lt_or_ge t i.tmps.size with h |o
     ·have u:t<r.tmps.size:=by rw[s.tmps];exact h
      simp[h,u]at m;simp[h,u,m]
     ·simp[Array.getElem?_eq_none o,Array.getElem?_eq_none (show r.tmps.size≤t by rw[s.tmps];exact o)]
   simp only[H]
theorem ir(h:d≠n):(z.setIfInBounds d true).getD n G=z.getD n G:=getD_set_ne G h
theorem jM(h:d<z.size):(z.setIfInBounds d true).getD d G=true:=by simp[h]
theorem A9(h:d≠n):(i.put (some d) q).tmps.getD n undef=i.tmps.getD n undef:=by
 simp[Act.put,Array.getElem?_setIfInBounds_ne h]
theorem CJ(h:d<i.tmps.size):(i.put (some d) q).tmps.getD d undef=q:=by
 simp[Act.put,h]
theorem KX(h:i.tmps.size≤d):(i.put (some d) q).tmps.getD d undef=undef:=by
 have:¬d<i.tmps.size:=Nat.not_lt.2 h;simp[Act.put,this]
theorem Gz:(i.put s q).tmps.size=i.tmps.size:=by cases s <;> simp[Act.put]
theorem Fz:(i.put s q).defers=i.defers:=by cases s <;> simp[Act.put]
theorem ZqA(F:kY k z)(a:Nat)(u:k[a]?= some w)(L:z.getD a false=true)(G:w.dst=some d)(P:d<i.tmps.size)(hr:a ∈ Region.ready .any k J)(a0:η=J.setIfInBounds a true)(n:(Region.wanted w (yielded k i.tmps)=true∧(execOp i.eval w).run e c= .ok (.value q) c)∨(Region.wanted w (yielded k i.tmps)=false∧q=undef))(h:Rg e k f z η (i.put (some d) q) c):Rg e k f z J i c:=by
 subst a0;intro a4 R Z N r a2 s;obtain⟨X,o',U,Q⟩:=mem_ready.1 hr;rw[u]at U;cases U;have y:a<J.size:=by
  rcases Nat.lt_or_ge a J.size with K |K
  ·exact K
  ·simp[Array.getElem?_eq_none K]at X
 have M:J.getD a false=false:=by rw[←iG y];exact X
 have a3:N.getD a false=false:=by
  cases B:N.getD a false with
  |false=>rfl
  |true=>rw[s.sub a B]at M;cases M
 have Y:∀(j:Nat) (g:Oper),k[j]?= some g→(∀l ∈ g.after,Region.binds .any l=true→J.getD l.on false=true)→d ∉ g.looksAt k:=by
  intro j g b hc hm;have:=F.look a w d u L G j g b hm;simp only[lG,b]at this;obtain⟨l,p,x⟩:=Array.any_eq_true'.1 this;simp only[Bool.and_eq_true,beq_iff_eq]at x;have:=hc l p x.1;rw[x.2,M]at this;cases this
 refine h (by simp[a4]) (λj g b o l p x=>?_) Z N r a2 ?_
 ·by_cases m:a=j
  ·subst m;rw[u]at b;cases b;have:=Q l p x;by_cases A:a=l.on
   ·rw[←A];exact jM y
   ·rw[ir A];exact this
  ·rw[ir m]at o;have:=R j g b o l p x;by_cases A:a=l.on
   ·rw[←A];exact jM y
   ·rw[ir A];exact this
 ·refine⟨s.size,λj b=>?_,s.closed,λj g b o B=>?_,by rw[Gz];exact s.tmps,by rw[Fz];exact s.dfr,λt W=>?_⟩
  ·by_cases m:a=j
   ·subst m;exact jM y
   ·rw[ir m];exact s.sub j b
  ·by_cases m:a=j
   ·subst m;rw[u]at b;cases b;have C:=Y a w u Q;have p:=execOp_put w (F.nosel a w u) i (some d) q (ops:=k) (λI v=>by cases v;exact C);have D:=wanted_put (ops:=k) w i (some d) q (λI v=>by cases v;exact C);refine⟨L,d,G,?_,?_⟩
    ·rw[D,p,CJ P];intro E;rcases n with n |n
     ·exact n.2
     ·rw[n.1]at E;cases E
    ·rw[D,CJ P];intro E;rcases n with n |n
     ·rw[n.1]at E;cases E
     ·exact n.2
   ·rw[ir m]at o;obtain⟨a1,O,S,k1,k2⟩:=s.pend j g b o B;have C:=Y j g b (R j g b o);have p:=execOp_put g (F.nosel j g b) i (some d) q (ops:=k) (λI v=>by cases v;exact C);have D:=wanted_put (ops:=k) g i (some d) q (λI v=>by cases v;exact C);have H:d≠O:=λl=>F.sole a w d u L G j g b (λl=>m l.symm) (l▸ S);exact⟨a1,O,S,by rw[D,p,A9 H];exact k1,by rw[D,A9 H];exact k2⟩
  ·have H:d≠t:=λl=>W a w u (jM y) a3 (l▸ G);rw[A9 H];refine s.agree t λj g b o B=>W j g b ?_ B;by_cases m:a=j
   ·subst m;exact jM y
   ·rw[ir m];exact o
theorem l4(h:k[d]?= some w):d<k.size:=(Array.getElem?_eq_some_iff.1 h).1
theorem SO(d:kY k z)(hs:J.size=k.size):∀(n j:Nat),j<n→j<k.size→J.getD j true=false→Region.ready .any k J≠[]
 |0,j,h,_,_=>by omega
 |n+1,j,h,f,g=>by
  intro c
  by_cases hp:∃e ∈ (k[j]).after,Region.binds .any e=true∧J.getD e.on false=false
  ·obtain⟨e,b,a,i⟩:=hp
   have m:=d.back j k[j] (by simp[f]) e b a
   refine SO d hs n e.on (by omega) (by omega) ?_ c
   rw[iG (by omega)];exact i
  ·have:j ∈ Region.ready .any k J:=mem_ready.2 ⟨g,k[j],by simp[f],λe b a=>by
    cases l:J.getD e.on false with
    |true=>rfl
    |false=>exact absurd ⟨e,b,a,l⟩ hp⟩
   rw[c]at this;cases this
theorem FI{listed:Array Bool}(h:left listed≠0):∃j,j<listed.size∧listed.getD j true=false:=by
 unfold left at h;obtain⟨x,g⟩:=List.exists_mem_of_length_pos (Nat.pos_of_ne_zero h);obtain⟨e,f⟩:=List.mem_filter.1 g;obtain⟨j,a⟩:=List.getElem?_of_mem e;have b:j<listed.size:=by
  have:=(List.getElem?_eq_some_iff.1 a).1
  simpa using this
 refine⟨j,b,?_⟩
 cases x
 ·have c:listed.toList[j]?= some listed[j]:=by simp[b]
  rw[c]at a;have d:=Option.some.inj a;simp[b,d]
 ·simp at f
def vz(a:Array Oper)(p:Nat):List Nat→List Nat→Bool
 |_,[]=>true
 |seen,g :: r=>(lG a p g ||seen.any λh=>lG a h g)&&vz a p (g :: seen) r
theorem RI(hp:k[d]?= some w)(m:∀e ∈ w.after,Region.binds .any e=true→z.getD e.on false=true)(n:∀(j:Nat) (w:Oper),k[j]?= some w→z.getD j false=true→∀e ∈ w.after,Region.binds .any e=true→z.getD e.on false=true):
  ∀ (l seen:List Nat),vz k d seen l=true→(∀g ∈ seen,z.getD g false=true)→∀g ∈ l,z.getD g false=true
 |[],_,_,_,g,c=>by cases c
 |x :: l,seen,h,hs,g,c=>by
  simp only[vz,Bool.and_eq_true,Bool.or_eq_true]at h
  have o:z.getD x false=true:=by
   rcases h.1 with a |a
   ·simp only[lG,hp]at a;obtain⟨e,f,b⟩:=Array.any_eq_true'.1 a;simp only[Bool.and_eq_true,beq_iff_eq]at b;rw[←b.2];exact m e f b.1
   ·obtain⟨y,q,a⟩:=List.any_eq_true.1 a;unfold lG at a;split at a
    ·rename_i r p;obtain⟨e,f,b⟩:=Array.any_eq_true'.1 a;simp only[Bool.and_eq_true,beq_iff_eq]at b;rw[←b.2];exact n y r p (hs y q) e f b.1
    ·cases a
  rcases List.mem_cons.1 c with rfl |c
  ·exact o
  ·exact RI hp m n l (x :: seen) h.2 (λs i=>by
    rcases List.mem_cons.1 i with rfl |i
    ·exact o
    ·exact hs s i) g c
def Next(P:Program)(b:Array Oper)(Q:Exit→Act→World→Prop)(d E:Array Bool)(a:Act)(w:World)(p:Nat):Prop :=
  ∃ (o:Oper) (A J:List Nat),b[p]?= some o∧vz b p [] A=true∧((List.range b.size).all λj=>!(E.getD j false&&d.getD j false) ||A.contains j ||J.contains j)=true∧
    (if Region.wanted o (yielded b a.tmps) then jB P o a w (λx e=>(∀j ∈ J,∀c,b[j]?= some c→kZ P b c (a.put o.dst x) e)∧Rg P b Q d (E.setIfInBounds p true) (a.put o.dst x) e)
     else(∀j ∈ J,∀c,b[j]?= some c→kZ P b c (a.put o.dst undef) w)∧Rg P b Q d (E.setIfInBounds p true) (a.put o.dst undef) w)
theorem OX(hF:kY k z)(ah:Region.ready .any k J=[]→f .normal i c)(h:∀p ∈ Region.ready .any k J,Next e k f z J i c p):Rg e k f z J i c:=by
 intro Z ag I
 induction I with
 |zero=>
  intro y r a5 s;have D:∀j,y.getD j true=true:=λj=>GX a5;have a1:∀j o,k[j]?= some o→y.getD j false=true:=λj o a=>by
   rw[←iG (by rw[s.size];exact l4 a)];exact D j
  have ai:r=i:=by
   have R:r.tmps=i.tmps:=by
    refine Array.ext s.tmps λm B M=>?_;have:=s.agree m (λj o a _ u=>by rw[a1 j o a]at u;cases u)
    simpa [B,M] using this
   have C:=s.dfr
   cases r;cases i;simp_all
  subst ai;have ae:Region.ready .any k J=[]:=by
   cases hx:Region.ready .any k J with
   |nil=>rfl
   |cons p l=>
    obtain⟨E,o,w,_⟩:=mem_ready.1 (show p ∈ Region.ready .any k J by rw[hx];simp);have:=s.sub p (a1 p o w);rw[iG (by rw[Z];exact l4 w),this]at E
    cases E
  refine⟨?_,ah ae⟩
  cases hx:Region.ready .any k y with
  |nil=>rfl
  |cons p l=>
   obtain⟨E,_⟩:=mem_ready.1 (show p ∈ Region.ready .any k y by rw[hx];simp);rw[D p]at E;cases E
 |succ I ih=>
  intro y r a5 s;refine⟨λh0=>?_,λm hi=>?_⟩
  ·obtain⟨j,a,u⟩:=FI (show left y≠0 by omega);exact absurd h0 (SO hF s.size (j+1) j (by omega) (by rw[←s.size];exact a) u)
  ·obtain⟨E,o,w,D⟩:=mem_ready.1 hi;have S:m<y.size:=by rw[s.size];exact l4 w
   have ak:y.getD m false=false:=by rw[←iG S];exact E
   have N:m<J.size:=by rw[Z];exact l4 w
   obtain⟨a3,al⟩:=s.eval hF w D;have a6:left (y.setIfInBounds m true)=I:=by have:=BS E;omega
   have a2:∀(j:Nat) (q:Oper),k[j]?= some q→(y.setIfInBounds m true).getD j false=true→∀n ∈ q.after,Region.binds .any n=true→(y.setIfInBounds m true).getD n.on false=true:=by
    intro j q a P n G F;have:y.getD n.on false=true:=by
     by_cases b:m=j
     ·subst b;rw[w]at a;cases a;exact D n G F
     ·rw[ir b]at P;exact s.closed j q a P n G F
    by_cases O:m=n.on
    ·rw[←O];exact jM S
    ·rw[ir O];exact this
   unfold wpOp;simp only[w];rw[al];by_cases U:J.getD m false=true
   ·obtain⟨am,d,C,k1,k2⟩:=s.pend m o w U ak;have next:wpAny e .any k f I (y.setIfInBounds m true) (r.put (some d) (i.tmps.getD d undef)) c:=by
     refine ih _ _ a6 ⟨by simp[s.size],λj a=>?_,a2,λj q a v u=>?_,by rw[Gz];exact s.tmps,by rw[Fz];exact s.dfr,λt R=>?_⟩
     ·by_cases b:m=j
      ·subst b;exact U
      ·rw[ir b]at a;exact s.sub j a
     ·by_cases b:m=j
      ·subst b;rw[jM S]at u;cases u
      ·rw[ir b]at u;exact s.pend j q a v u
     ·by_cases K:d=t
      ·subst K;rcases Nat.lt_or_ge d r.tmps.size with B |B
       ·rw[CJ B]
       ·have M:i.tmps.size≤d:=by rw[←s.tmps];exact B
        rw[KX B];simp[Array.getElem?_eq_none M]
      ·rw[A9 K];refine s.agree t λj q a v u=>?_;by_cases b:m=j
       ·subst b;rw[w]at a;cases a;rw[C];exact λn=>K (Option.some.inj n)
       ·exact R j q a v (by rw[ir b];exact u)
    by_cases H:Region.wanted o (yielded k i.tmps)=true
    ·rw[iP H];refine .inl ?_;unfold Oper.wp;rw[a3,k1 H,Oper.upon_value,C];exact next
    ·rw[iN H,C];rw[k2 (by simpa using H)]at next;exact next
   ·have W:J.getD m false=false:=by simpa using U
    have aj:m ∈ Region.ready .any k J:=mem_ready.2 ⟨by rw[iG N];exact W,o,w,λn G F=>s.sub _ (D n G F)⟩;obtain⟨o',A,aa,a8,hA,ab,Q⟩:=h m aj;rw[w]at a8;cases a8;have ad:=RI w D s.closed A [] hA (λg hg=>by cases hg);have a9:∀(x:Value) (L:World),(∀j ∈ aa,∀q,k[j]?= some q→kZ e k q (i.put o.dst x) L)→Rg e k f z (J.setIfInBounds m true) (i.put o.dst x) L→
      wpAny e .any k f I (y.setIfInBounds m true) (r.put o.dst x) L:=by
     intro x L X Y;have af:∀(j:Nat) (q:Oper),k[j]?= some q→(J.setIfInBounds m true).getD j false=true→∀n ∈ q.after,Region.binds .any n=true→(J.setIfInBounds m true).getD n.on false=true:=by
      intro j q a P n G F;have:J.getD n.on false=true:=by
       by_cases b:m=j
       ·subst b;rw[w]at a;cases a;exact s.sub _ (D n G F)
       ·rw[ir b]at P;exact ag j q a P n G F
      by_cases O:m=n.on
      ·rw[←O];exact jM N
      ·rw[ir O];exact this
     refine Y (by simp[Z]) af I _ _ a6 ⟨by simp[s.size],λj a=>?_,a2,λj q a v u=>?_,by rw[Gz,Gz];exact s.tmps,by rw[Fz,Fz];exact s.dfr,λt R=>?_⟩
     ·by_cases b:m=j
      ·subst b;exact jM N
      ·rw[ir b]at a ⊢;exact s.sub j a
     ·by_cases b:m=j
      ·subst b;rw[jM S]at u;cases u
      ·rw[ir b]at v u;obtain⟨a4,_⟩:=s.pend j q a v u;refine⟨a4,X j ?_ q a⟩;have:=List.all_eq_true.1 ab j (List.mem_range.2 (l4 a));simp only[v,a4,Bool.and_self,Bool.not_true,Bool.false_or,Bool.or_eq_true]at this;rcases this with t |t
       ·have:=ad j (by simpa using t);rw[u]at this;cases this
       ·simpa using t
     ·have a0:(∀d,o.dst=some d→d≠t)→(r.put o.dst x).tmps.getD t undef=(i.put o.dst x).tmps.getD t undef:=by
       intro a7
       cases C:o.dst with
       |none=>
        exact s.agree t λj q a v u=>R j q a (by
         by_cases b:m=j
         ·subst b;exact jM N
         ·rw[ir b];exact v) (by
         by_cases b:m=j
         ·subst b;rw[W]at v;cases v
         ·rw[ir b];exact u)
       |some d=>
        rw[A9 (a7 d C),A9 (a7 d C)];exact s.agree t λj q a v u=>R j q a (by
         by_cases b:m=j
         ·subst b;exact jM N
         ·rw[ir b];exact v) (by
         by_cases b:m=j
         ·subst b;rw[W]at v;cases v
         ·rw[ir b];exact u)
      cases C:o.dst with
      |none=>rw[←C];exact a0 (λd n=>by rw[C]at n;cases n)
      |some d=>
       by_cases K:d=t
       ·subst K;rcases Nat.lt_or_ge d r.tmps.size with B |B
        ·rw[CJ B,CJ (by rw[←s.tmps];exact B)]
        ·have M:i.tmps.size≤d:=by rw[←s.tmps];exact B
         rw[KX B,KX M]
       ·rw[←C];exact a0 (λd' n=>by rw[C]at n;cases n;exact K)
    by_cases H:Region.wanted o (yielded k i.tmps)=true
    ·rw[iP H]at Q ⊢;exact .inl (Gv a3 Q λx L ⟨X,Y⟩=>a9 x L X Y)
    ·rw[iN H]at Q ⊢;exact a9 undef c Q.1 Q.2
theorem ZeA{id:Nat}(g:e.follows .mixedOrders=true)(h:Rg e p.toArray f z (Array.replicate p.length false) i c.drew):(Code.region id p.toArray true).wp e f i c:=by
 refine wp_region_any g ?_;have b:∀j,(Array.replicate p.length false).getD j false=false:=λj=>getD_replicate_false _ _;have d:left (Array.replicate p.length false)=p.length:=by
  simp[left]
 have:=h (by simp) (λj o _ a=>absurd ((b j).symm.trans a) (by simp)) _ (Array.replicate p.length false) i d
  ⟨by simp,λj a=>a,λj o _ a=>absurd ((b j).symm.trans a) (by simp),λj o _ a=>absurd ((b j).symm.trans a) (by simp),rfl,rfl,λ_ _=>rfl⟩
 simpa using this
theorem St.drew(e:St d h g a b l i c):St d h g a b l i c.drew:=e.step (fD.drew c) (eL.ext e.vin (fD.drew c))
theorem Bn(w:World)(b k:Nat)(c:Array Value)(h:k≠b):(w.setRow b c).heap[k]?= w.heap[k]?:=setRow_other w b k c h
theorem ZtA{a:dW}(x:fb a c)(f:a.wd.heap.size≤d∨d ∈ a.lent)(e:Array Value):fb a (c.setRow d e) :=
 ⟨x.os,x.tape,x.output,by simp[World.setRow];exact x.size,λk g b=>by rw[Bn _ _ _ _ (by rintro rfl;rcases f with h |h;omega;exact b h)];exact x.block k g b⟩
theorem ZjB(k:W.holds c)(b:∀a,W.blk=some a→a≠d):W.holds (c.setRow d C):=by
 cases W with
 |box a T h=>show _=_;rw[Bn _ _ _ _ (b a rfl)];exact k
 |own a T sz n j h=>
  cases a with
  |none=>exact k
  |some a=>obtain⟨f,e,g,i⟩:=k;exact⟨f,e,by rw[Bn _ _ _ _ (b a rfl)];exact g,i⟩
 |mp a l=>obtain⟨es,e,f,g⟩:=k;exact⟨es,e,by rw[Bn _ _ _ _ (b a rfl)];exact f,g⟩
 |it a s p=>show _=_;rw[Bn _ _ _ _ (b a rfl)];exact k
theorem MN(h:b[d]?= some W)(a:a4.blk=W.blk):(b.set d a4).filterMap dY.blk=b.filterMap dY.blk:=by
 induction b generalizing d with
 |nil=>simp at h
 |cons x l c=>
  cases d with
  |zero=>simp at h;subst h;simp[List.filterMap_cons,a]
  |succ d=>simp at h;simp[List.filterMap_cons,c h]
theorem CC(a:(b.filterMap dY.blk).Nodup)(h:b[d]?= some W)(g:W.blk=some n):
  ∀ (j:Nat) (x:dY),b[j]?= some x→j≠d→∀e,x.blk=some e→e≠n:=by
 induction b generalizing d with
 |nil=>simp at h
 |cons y l p=>
  intro j x c m e f k;subst k
  cases d with
  |zero=>
   simp at h;subst h
   cases j with
   |zero=>exact m rfl
   |succ j=>
    simp at c;rw[List.filterMap_cons_some g]at a;exact(List.nodup_cons.1 a).1 (List.mem_filterMap.2 ⟨x,mG c,f⟩)
  |succ d=>
   simp at h
   cases j with
   |zero=>
    simp at c;subst c;rw[List.filterMap_cons_some f]at a;exact(List.nodup_cons.1 a).1 (List.mem_filterMap.2 ⟨W,mG h,g⟩)
   |succ j=>
    simp at c;have o:(l.filterMap dY.blk).Nodup:=by
     cases i:y.blk with
     |none=>rw[List.filterMap_cons_none i]at a;exact a
     |some q=>rw[List.filterMap_cons_some i]at a;exact(List.nodup_cons.1 a).2
    exact p o h j x c (by omega) e f rfl
theorem St.setRow{w:World}(e:St d h g a b l i w){c:Array Value}(p:b[n]?= some W)(q:W.blk=some A)(t:a4.blk=some A)(z:a4.holds (w.setRow A c)):
  St d h g a (b.set n a4) l i (w.setRow A c):=by
 obtain⟨G,C⟩:=e.loc W (mG p);obtain⟨u,v⟩:=C A q;have D:=ZtA e.ext u c;refine⟨e.size,e.dfr,e.fr,D,⟨e.vst.le,λk o s=>?_,e.vst.old⟩,λx E=>?_,?_⟩
 ·rw[Bn _ _ _ _ (λW=>by subst W;rw[v]at s;cases s)];exact e.vin k o s
 ·obtain⟨j,f⟩:=List.getElem?_of_mem E;by_cases r:j=n
  ·subst r;have B:j<b.length:=(List.getElem?_eq_some_iff.1 p).1;rw[List.getElem?_set_self B]at f
   cases f
   refine⟨z,λF m=>?_⟩;rw[t]at m;cases m;exact⟨u,v⟩
  ·rw[List.getElem?_set_ne (λW=>r W.symm)]at f;obtain⟨y,m⟩:=e.loc x (mG f);exact⟨ZjB y (CC e.nd p q j x f r),m⟩
 ·rw[MN p (t.trans q.symm)];exact e.nd
theorem HM(l a:List r)(n b:Nat)(h:b+a.length≤n)(d:n≤l.length):
  (l.take b++a++l.drop (b+a.length)).take n=(l.take n).take b++a++(l.take n).drop (b+a.length):=by
 have c:(l.take b++a).length=b+a.length:=by simp;omega
 rw[List.take_append,List.take_of_length_le (by omega),List.take_take,Nat.min_eq_left (by omega),List.drop_take,c]
theorem WT(x:Value):plain x=x.oneCell':=by cases x <;> rfl
theorem Iz(h:m.all plain=true):∀x ∈ m,x.oneCell'=true:=λx a=>by
 rw[←WT];exact List.all_eq_true.1 h x a
def cellsOf(z:Value)(a:List Value):Prop:=z.cells=a.toArray
theorem W8(a:List Value):cellsOf (.agg a.toArray) a:=rfl
theorem nw(h:plain q=true):cellsOf q [q]:=by cases q <;> first |rfl |cases h
theorem UC{P:Program}{T:TypeId}{cs:List Value}(e:eS P j cs.length G)(f:cellsOf q cs)(b:c.heap[d]?= some (.cells C T (0,0)))(a:n+cs.length≤C.size)(hp:cs.all plain=true):(Instr.storeAt j (.pointer (some ⟨d,n,none⟩)) q).run P c= .ok () (c.setRow d (C.toList.take n++cs++C.toList.drop (n+cs.length)).toArray):=by
 have:=run_storeCells_at P d n T cs 0 C c b (by simpa using a) (Iz hp);simp only[Nat.add_zero]at this;have g:q.cells=cs.toArray:=f;simp[Instr.storeAt,Instr.sureAddr,storeVar,g,e.size,this]
theorem U5(f:St d h g a b l i c)(k:ev a x=some q)(m:ev a ε=some τ)(n:(Instr.storeAt B q τ).run e c= .ok () F):
  (execOp i.eval ⟨s,.store B x ε,j,v,t,o⟩).run e c= .ok .skip F:=by
 simp[execOp,f.eval k,f.eval m,n]
theorem J9{P:Program}{k:Act}(m:St d h g a b l k c){T:TypeId}{off i:Nat}{z:Value}{cs f:List Value}(C:eS P j n G)(D:cellsOf z cs)(w:cs.length=n)(p:b[i]?= some (.box A T f))(v:off+n≤f.length)(hp:cs.all plain=true):
  ∃ q,(∀{s:Option Nat} {F:TypeId} {E:String} {r:Array Edge} {u:Option (Nat×Bool)} {x y:Operand},ev a x=some (.pointer (some ⟨A,off,none⟩))→ev a y=some z→(execOp k.eval ⟨s,.store j x y,F,E,r,u⟩).run P c= .ok .skip q)∧St d h g a (b.set i (.box A T (f.take off++cs++f.drop (off+cs.length)))) l k q:=by
 subst w;have o:c.heap[A]?= some (.cells f.toArray T (0,0)):=(m.loc _ (mG p)).1;have B:=UC (P:=P) C D o (by simpa using v) hp;refine⟨_,λe t=>U5 m e t B,m.setRow p rfl rfl ?_⟩;show _=_;exact setRow_heap c A _ _ T _ o
theorem pK{P:Program}{k:Act}(o:St d h g a b l k c){T:TypeId}{sz off i:Nat}{z:Value}{cs f:List Value}(H:eS P j n G)(J:cellsOf z cs)(E:cs.length=n)(q:b[i]?= some (.own (some κ) T sz A N f))(M:off+n≤f.length)(hp:cs.all plain=true):
  ∃ s,(∀{u:Option Nat} {L:TypeId} {K:String} {t:Array Edge} {w:Option (Nat×Bool)} {x y:Operand},ev a x=some (.pointer (some ⟨κ,off,none⟩))→ev a y=some z→(execOp k.eval ⟨u,.store j x y,L,K,t,w⟩).run P c= .ok .skip s)∧St d h g a (b.set i (.own (some κ) T sz A N (f.take off++cs++f.drop (off+cs.length)))) l k s:=by
 subst E;obtain⟨O,m,p,r,B,hs,I⟩:=(o.loc _ (mG q)).1;have D:A*sz≤m.size:=by rw[hs];exact mR _ r
 have C:off+cs.length≤m.size:=by omega
 have F:=UC (P:=P) (cs:=cs) H J p C hp;refine⟨_,λe v=>U5 o e v F,o.setRow q rfl rfl ⟨?_,_,setRow_heap c κ m _ T _ p,r,B,?_,?_⟩⟩
 ·simp;omega
 ·simp;omega
 ·rw[←I];exact HM _ _ _ _ (by omega) (by simpa using D)
def ZT(P:Program)(f:FuncId):Prop:=∀a w,(callFunc f a).run P w= .ok (.enter f a) w
theorem PG{K:Nat}{r:Zb}{d:Option Nat}{ty:TypeId}{pos:String}{aft:Array Edge}{g:Option (Nat×Bool)}(j:St K h r a b l i c){ats:Array TypeId}(o:ZT e L)(n:ev a x=some (.func (.func L) #[] C))(f:X.toList.map (ev a)=m.map some):(execOp i.eval ⟨d,.call ⟨.value x,X,ats⟩,ty,pos,aft,g⟩).run e c= .ok (.enter L (m.toArray++C)) c:=by
 have p:X.map i.eval=m.toArray:=by
  apply Array.ext';rw[Array.toList_map];generalize X.toList=k at f
  induction k generalizing m with
  |nil=>cases m <;> simp_all
  |cons y k q=>
   cases m with
   |nil=>simp at f
   |cons u m=>simp at f;simp[j.eval f.1,q f.2]
 simp[execOp,resolve,Deferred.ofValue,invoke,j.eval n,p,o _ c]
theorem jS(h:w.guard=none):Region.wanted w ω=true:=by simp[Region.wanted,h]
theorem pV(j:St d h g a b l i c)(o:w.guard=some (n,G))(p:(k[n]?).bind (·.dst)=some A)(q:look a A=some (.bool G))(m:A<d):Region.wanted w (yielded k i.tmps)=true:=by
 have e:=j.fr A _ q;have f:A<i.tmps.size:=by rw[j.size];exact m
 simp[f]at e;simp[Region.wanted,o,yielded,p,f,e]
theorem Er(j:St d h g a b l i c)(o:w.guard=some (n,G))(p:(k[n]?).bind (·.dst)=some A)(q:look a A=some (.bool !G))(m:A<d):Region.wanted w (yielded k i.tmps)=false:=by
 have e:=j.fr A _ q;have f:A<i.tmps.size:=by rw[j.size];exact m
 simp[f]at e;simp[Region.wanted,o,yielded,p,f,e]
theorem qq(j:St d h g a b l i c)(o:w.guard=some (n,G))(p:(k[n]?).bind (·.dst)=some A)(q:look a A=some undef)(m:A<d):Region.wanted w (yielded k i.tmps)=false:=by
 have e:=j.fr A _ q;have f:A<i.tmps.size:=by rw[j.size];exact m
 simp[f]at e;simp[Region.wanted,o,yielded,p,f,e,undef]
theorem ZmC(b:Region.wanted w (yielded k i.tmps)=true)(h:∀N:Act→World→Prop,(∀i c,wpList e k f p i c→N i c)→w.wp e i c N f):wpList e k f (w :: p) i c :=
 wpList_step λ_ a=>by rw[iP b];exact h _ a
theorem md(b:Region.wanted w (yielded k i.tmps)=true)(h:jB e w i c λx g=>wpList e k f p (i.put w.dst x) g):wpList e k f (w :: p) i c :=
 ZmC b λ_ a=>Gv rfl h λ_ _ d=>a _ _ d
theorem vY{i:List (Nat×Value)}{a:Act}(o:St d h g i b l a c)(t:Region.wanted w (yielded k a.tmps)=true)(r:w.dst=some n)(m:n<d)(s:(execOp a.eval w).run e c= .ok (.value q) c)(j:∀a,St d h g ((n,q) :: i) b l a c→wpList e k f p a c):wpList e k f (w :: p) a c :=
 md t (qt s (by rw[r];exact j _ (o.put q m)))
theorem vd(q:St d h g a b l i c)(s:Region.wanted w (yielded k i.tmps)=false)(r:w.dst=some n)(m:n<d)(j:∀i,St d h g ((n,undef) :: a) b l i c→wpList e k f p i c):wpList e k f (w :: p) i c :=
 wpList_step λ_ o=>by rw[iN (by rw[s];simp),r];exact o _ _ (j _ (q.put undef m))
theorem H8(d:Region.wanted w (yielded k i.tmps)=true)(a:w.dst=none)(b:(execOp i.eval w).run e c= .ok .skip F)(h:wpList e k f p i F):wpList e k f (w :: p) i c :=
 md d (Lr b (by rw[a];exact h))
theorem Q8{j:List (Nat×Value)}{a:Act}{T:TypeId}{cs:List Value}(q:St d h g j b l a c)(t:Region.wanted w (yielded k a.tmps)=true)(r:w.dst=some n)(o:n<d)(s:(execOp a.eval w).run e c= .ok (.value (.pointer (some ⟨c.heap.size,0,none⟩))) (c.alloc (.cells cs.toArray T)))(m:∀i a c,St d h g ((n,.pointer (some ⟨i,0,none⟩)) :: j) (.box i T cs :: b) l a c→wpList e k f p a c):wpList e k f (w :: p) a c :=
 md t (qt s (by
  rw[r]
  exact m c.heap.size _ _ ((q.newLoc (.cells cs.toArray T) (e:=.box c.heap.size T cs) rfl (heap_alloc_new c _)).put _ o)))
theorem Li{m:List (Nat×Value)}{a:Act}(v:St d h g m b l a c)(B:Region.wanted w (yielded k a.tmps)=true)(z:w.dst=some n)(u:n<d)(A:(execOp a.eval w).run e c= .ok (.enter L C) c)(y:fM e L C c l M)(t:∀x i a c,l.le i→M x i→St d h g ((n,x) :: m) b i a c→wpList e k f p a c):wpList e k f (w :: p) a c :=
 md B (o5 A (Calls.mono y λD E ⟨r,i,o,q,j,s⟩=>⟨r,o,by
  rw[z]
  exact t r i _ _ j.le s ((v.step q j).put r u)⟩))
theorem ZS(h:f .normal i c):wpList e k f [] i c:=h
theorem sZ(A a:List Nat)(o:k[d]?= some w)(l:vz k d [] A=true)(m:((List.range k.size).all λj=>!(J.getD j false&&z.getD j false) ||A.contains j ||a.contains j)=true)(n:η=J.setIfInBounds d true)(p:Region.wanted w (yielded k i.tmps)=true)(h:jB e w i c λx g=>(∀j ∈ a,∀b,k[j]?= some b→kZ e k b (i.put w.dst x) g)∧Rg e k f z η (i.put w.dst x) g):Next e k f z J i c d :=
 ⟨w,A,a,o,l,m,by rw[iP p,←n];exact h⟩
theorem m8{id:Nat}(h:f .normal i c):Exit.inBlock id f (.exit id) i c:=by simp only[Exit.inBlock,iP];exact h
theorem Rt{id:Nat}(a:(n==id)=false)(h:f (.exit n) i c):Exit.inBlock id f (.exit n) i c:=by
 have:¬n=id:=by simpa using a
 simp only[Exit.inBlock,iN this];exact h
theorem least{p:Nat→Prop}(n:Nat)(h:p n):∃m,p m∧∀k,p k→m≤k:=by
 induction n using Nat.strongRecOn with
 |_ n f=>
  by_cases a:∃m,m<n∧p m
  ·obtain⟨m,b,c⟩:=a;exact f m b c
  ·exact⟨n,h,λk d=>Nat.le_of_not_lt λe=>a ⟨k,e,d⟩⟩
open Classical in
theorem fy{a:Act}(I:Nat→Act→World→Prop)(n:Nat)(q:I n a c)(r:∀a c,¬I 0 a c)(s:∀n a c,I (n+1) a c→∀N:Act→World→Prop,(∀a c,I n a c→N a c)→μ.wp e (Exit.then N f) a c):(Code.loop μ).wp e f a c:=by
 let b:Act→World→Nat:=λa c=>if h:∃m,I m a c∧∀k,I k a c→m≤k then h.choose else 0
 have o:∀a c k,I k a c→I (b a c) a c∧b a c≤k:=by
  intro a c k i;have g:=least (p:=λk=>I k a c) k i;have:b a c=g.choose:=dif_pos g;rw[this];exact⟨g.choose_spec.1,g.choose_spec.2 k i⟩
 refine wp_loop (λa c=>∃k,I k a c) b ⟨n,q⟩ λa c ⟨k,i⟩=>?_;obtain⟨d,_⟩:=o a c k i
 cases l:b a c with
 |zero=>rw[l]at d;exact absurd d (r a c)
 |succ m=>
  rw[l]at d;exact s m a c d _ λp t j=>⟨⟨m,j⟩,by have:=(o p t m j).2;omega⟩
def dU{α a:Type}(x:Option α)(f:α→Option a):Option a:=match x with
 |some y=>f y
 |none=>none
theorem f9{x:Option r}{f:r→Option θ}(h:dU x f=some Δ):∃y,x=some y∧f y=some Δ:=by
 cases x with
 |none=>cases h
 |some y=>exact⟨y,rfl,h⟩
def dV{a:Type}(b:Bool)(x y:Option a):Option a:=match b with
 |true=>x
 |false=>y
theorem jH{x y:Option r}(h:dV G x y=some O)(e:G=true):x=some O:=by subst e;exact h
theorem jF{x y:Option r}(h:dV G x y=some O)(e:G=false):y=some O:=by subst e;exact h
open Classical in
noncomputable def grd{a:Type}(p:Prop)(x:Option a):Option a:=if p then x else none
def Zg{σ ρ:Type}(a:σ→Option (σ ⊕ ρ)):Nat→σ→Option ρ
 |0,_=>none
 |n+1,s=>dU (a s) fun
  |.inl b=>Zg a n b
  |.inr r=>some r
theorem V5:¬Zg I 0 O=some Δ:=λh=>by cases h
theorem ZeE(h:Zg I (d+1) O=some Δ):
  ∃ x,I O=some x∧((∃a,x= .inl a∧Zg I d a=some Δ)∨x= .inr Δ):=by
 obtain⟨x,c,b⟩:=f9 h;refine⟨x,c,?_⟩
 cases x with
 |inl a=>exact .inl ⟨a,rfl,b⟩
 |inr e=>exact .inr (by cases b;rfl)
def Zh:Nat:=2^70
def eJ(k:IntKind)(x:Int):Prop:=k.min≤x∧x≤k.max
instance (k:IntKind) (x:Int):Decidable (eJ k x):=inferInstanceAs (Decidable (_∧_))
theorem gT:eJ .i64 y↔ -9223372036854775808≤y∧y≤9223372036854775807:=Iff.rfl
theorem kE:eJ .u64 y↔0≤y∧y≤18446744073709551615:=Iff.rfl
theorem NV:eJ .u32 y↔0≤y∧y≤4294967295:=Iff.rfl
theorem Mu:eJ .u8 y↔0≤y∧y≤255:=Iff.rfl
theorem Ve:eJ .i32 y↔ -2147483648≤y∧y≤2147483647:=Iff.rfl
theorem kI(k:IntKind)(x:Int):eJ k (k.wrap x):=by
 cases k
 ·simp only[eJ,IntKind.wrap,IntKind.min,IntKind.max,IntKind.signed,IntKind.bits];simp;first |omega |(split <;> omega)
 ·simp only[eJ,IntKind.wrap,IntKind.min,IntKind.max,IntKind.signed,IntKind.bits];simp;first |omega |(split <;> omega)
 ·rw[Ve,IntKind.wrap_i32];omega
 ·rw[gT,IntKind.wrap_i64];omega
 ·rw[Mu,IntKind.wrap_u8];omega
 ·simp only[eJ,IntKind.wrap,IntKind.min,IntKind.max,IntKind.signed,IntKind.bits];simp;first |omega |(split <;> omega)
 ·rw[NV,IntKind.wrap_u32];omega
 ·rw[kE,IntKind.wrap_u64];omega
theorem lx(h:eJ u y):u.wrap y=y:=by
 cases u
 ·simp only[eJ,IntKind.wrap,IntKind.min,IntKind.max,IntKind.signed,IntKind.bits] at *;simp at *;first |omega |(split <;> omega)
 ·simp only[eJ,IntKind.wrap,IntKind.min,IntKind.max,IntKind.signed,IntKind.bits] at *;simp at *;first |omega |(split <;> omega)
 ·rw[Ve]at h;rw[IntKind.wrap_i32];omega
 ·rw[gT]at h;rw[IntKind.wrap_i64];omega
 ·rw[Mu]at h;rw[IntKind.wrap_u8];omega
 ·simp only[eJ,IntKind.wrap,IntKind.min,IntKind.max,IntKind.signed,IntKind.bits] at *;simp at *;first |omega |(split <;> omega)
 ·rw[NV]at h;rw[IntKind.wrap_u32];omega
 ·rw[kE]at h;rw[IntKind.wrap_u64];omega
def chk(k:IntKind)(x:Int):Option Int:=if eJ k x then some x else none
theorem jW(h:chk u y=some K):K=y∧eJ u K:=by
 unfold chk at h;split at h
 ·cases h;exact⟨rfl,‹_›⟩
 ·cases h
theorem KA(h:eJ u y):chk u y=some y:=iP h
theorem ZD(f:St d h g a b l i c)(k:ev a x=some (.int u y))(m:ev a ε=some (.int a2 K))(n:∀c,(binOp a1 B (.int u y) (.int a2 K)).run e c= .ok q c):(execOp i.eval ⟨s,.binOp a1 B x ε ζ,j,v,t,o⟩).run e c= .ok (.value q) c:=by
 cases a1 <;> simp[execOp,f.eval k,f.eval m,eqGuard,n]
theorem vc(h:chk u (y+K)=some ξ)(w:World):(binOp .add j (.int u y) (.int u K)).run e w= .ok (.int u ξ) w:=by
 obtain⟨rfl,h⟩:=jW h;simp[binOp,Op.intArith,lx h]
theorem ko(h:chk u (y-K)=some ξ)(w:World):(binOp .sub j (.int u y) (.int u K)).run e w= .ok (.int u ξ) w:=by
 obtain⟨rfl,h⟩:=jW h;simp[binOp,Op.intArith,lx h]
theorem rx(h:chk u (y*K)=some ξ)(w:World):(binOp .mul j (.int u y) (.int u K)).run e w= .ok (.int u ξ) w:=by
 obtain⟨rfl,h⟩:=jW h;simp[binOp,Op.intArith,lx h]
theorem JU(w:World):(binOp .add j (.int u y) (.int u K)).run e w= .ok (.int u (u.wrap (y+K))) w:=by simp[binOp,Op.intArith]
theorem JL(w:World):(binOp .sub j (.int u y) (.int u K)).run e w= .ok (.int u (u.wrap (y-K))) w:=by simp[binOp,Op.intArith]
theorem XL(w:World):(binOp .mul j (.int u y) (.int u K)).run e w= .ok (.int u (u.wrap (y*K))) w:=by simp[binOp,Op.intArith]
def quo(k:IntKind)(p q:Int):Option Int:=if q=0 then none else chk k (p.tdiv q)
def rem(_k:IntKind)(p q:Int):Option Int:=if q=0 then none else some (p.tmod q)
theorem SJ(h:quo u y K=some ξ)(w:World):(binOp .quo j (.int u y) (.int u K)).run e w= .ok (.int u ξ) w:=by
 unfold quo at h;split at h
 ·cases h
 ·rename_i a;obtain⟨rfl,h⟩:=jW h;simp[binOp,Op.intDiv,a,lx h]
theorem TN(h:rem u y K=some ξ)(w:World):(binOp .rem j (.int u y) (.int u K)).run e w= .ok (.int u ξ) w:=by
 unfold rem at h;split at h
 ·cases h
 ·rename_i a
  cases h
  simp[binOp,Op.intDiv,a]
theorem QZ(h:quo u y K=some ξ):eJ u ξ:=by
 unfold quo at h;split at h
 ·cases h
 ·exact(jW h).2
theorem tU(hp:eJ u y)(h:rem u y K=some ξ):eJ u ξ:=by
 unfold rem at h;split at h
 ·cases h
 ·rename_i e
  cases h
  have b:(y.tmod K).natAbs≤y.natAbs:=by rw[Int.natAbs_tmod];exact Nat.mod_le _ _
  have c:0≤y→0≤y.tmod K:=λh=>Int.tmod_nonneg _ h;have d:y≤0→y.tmod K≤0:=λh=>by
   have:=Int.tmod_nonneg (a:=-y) K (by omega);rw[Int.neg_tmod]at this;omega
  have a:u.min≤0∧0≤u.max:=by cases u <;> decide
  unfold eJ at *;omega
theorem m5(w:World):(binOp .lss j (.int u y) (.int u K)).run e w= .ok (.bool (decide (y<K))) w:=by simp[binOp,Op.intCmp]
theorem Tz(w:World):(binOp .leq j (.int u y) (.int u K)).run e w= .ok (.bool (decide (y≤K))) w:=by simp[binOp,Op.intCmp]
theorem qW(w:World):(binOp .gtr j (.int u y) (.int u K)).run e w= .ok (.bool (decide (K<y))) w:=by simp[binOp,Op.intCmp]
theorem Ms(w:World):(binOp .geq j (.int u y) (.int u K)).run e w= .ok (.bool (decide (K≤y))) w:=by simp[binOp,Op.intCmp]
theorem xw(w:World):(binOp .eql j (.int u y) (.int u K)).run e w= .ok (.bool (y==K)) w:=by simp[binOp,Op.intCmp]
theorem ry(w:World):(binOp .neq j (.int u y) (.int u K)).run e w= .ok (.bool (y != K)) w:=by simp[binOp,Op.intCmp]
def hG(k:IntKind)(p q:Int):Option Int:=if q<0 then none else some (k.wrap (p*2^(min q.toNat k.bits)))
def ZN(k:IntKind)(p q:Int):Option Int:=if q<0 then none else some (p.fdiv (2^(min q.toNat k.bits)))
theorem rC(h:hG u y K=some ξ)(w:World):(binOp .shl j (.int u y) (.int a2 K)).run e w= .ok (.int u ξ) w:=by
 unfold hG at h;split at h
 ·cases h
 ·rename_i a;cases h;simp[binOp,Op.shift,a]
theorem rD(h:ZN u y K=some ξ)(w:World):(binOp .shr j (.int u y) (.int a2 K)).run e w= .ok (.int u ξ) w:=by
 unfold ZN at h;split at h
 ·cases h
 ·rename_i a;cases h;simp[binOp,Op.shift,a]
def iL(k:IntKind)(p q:Int):Int:=k.wrap (BitVec.ofInt k.bits p &&& BitVec.ofInt k.bits q).toNat
def fw(k:IntKind)(p q:Int):Int:=k.wrap (BitVec.ofInt k.bits p |||BitVec.ofInt k.bits q).toNat
theorem rv(w:World):(binOp .and j (.int u y) (.int u K)).run e w= .ok (.int u (iL u y K)) w:=by simp[binOp,Op.intBits,iL]
theorem yC(w:World):(binOp .or j (.int u y) (.int u K)).run e w= .ok (.int u (fw u y K)) w:=by simp[binOp,Op.intBits,fw]
structure ee(α:Type) where
 n:Nat
 agg:Bool
 rel:Zb→List Value→α→Prop
 len:∀{v cs x},rel v cs x→cs.length=n
 mono:∀{v v' cs x},v.le v'→rel v cs x→rel v' cs x
 flat:∀{v cs x},rel v cs x→cs.all plain=true
variable {E:ee r}
def ee.val{b:Type}(A:ee b)(a:List Value):Value:=match A.agg with
 |true=>.agg a.toArray
 |false=>a.headD undef
def Zd(k:IntKind):ee Int where
 n:=1
 agg:=false
 rel _ cs x:=cs=[.int k x]∧eJ k x
 len h:=by rw[h.1];rfl
 mono _ h:=h
 flat h:=by rw[h.1];rfl
def ny:ee Bool where
 n:=1
 agg:=false
 rel _ cs x:=cs=[.bool x]
 len h:=by rw[h];rfl
 mono _ h:=h
 flat h:=by rw[h];rfl
def Zt(l:List UInt8):ByteArray:=⟨l.toArray⟩
def iZ:ee (List UInt8) where
 n:=1
 agg:=false
 rel _ cs x:=cs=[.string (Zt x)]∧x.length≤maxLen
 len h:=by rw[h.1];rfl
 mono _ h:=h
 flat h:=by rw[h.1];rfl
def Zj{α β:Type}(A:ee α)(B:ee β):ee (α×β) where
 n:=A.n+B.n
 agg:=true
 rel v cs x:=∃c1 c2,cs=c1++c2∧A.rel v c1 x.1∧B.rel v c2 x.2
 len h:=by obtain⟨c1,c2,rfl,h1,h2⟩:=h;simp[A.len h1,B.len h2]
 mono hv h:=by obtain⟨c1,c2,rfl,h1,h2⟩:=h;exact⟨c1,c2,rfl,A.mono hv h1,B.mono hv h2⟩
 flat h:=by obtain⟨c1,c2,rfl,h1,h2⟩:=h;rw[List.all_append,A.flat h1,B.flat h2];rfl
def ee.via{α β:Type}(A:ee β)(f:α→β):ee α where
 n:=A.n
 agg:=A.agg
 rel v cs x:=A.rel v cs (f x)
 len h:=A.len h
 mono hv h:=A.mono hv h
 flat h:=A.flat h
def NF{α:Type}(A:ee α):ee α where
 n:=A.n
 agg:=true
 rel v cs x:=A.rel v cs x
 len h:=A.len h
 mono hv h:=A.mono hv h
 flat h:=A.flat h
def ee.rels{d:Type}(A:ee d)(v:Zb):List Value→List d→Prop
 |a,[]=>a=[]
 |a,x :: l=>∃b c,a=b++c∧A.rel v b x∧A.rels v c l
theorem kK:∀{l:List r} {a:List Value},E.rels g a l→a.length=l.length*E.n
 |[],a,h=>by rw[show a=[] from h];simp
 |x :: l,a,h=>by obtain⟨d,e,rfl,b,c⟩:=h;simp[E.len b,kK c,Nat.succ_mul,Nat.add_comm]
theorem ZQ(c:g.le l):∀{b:List r} {a:List Value},E.rels g a b→E.rels l a b
 |[],a,h=>h
 |x :: b,a,h=>by obtain⟨d,e,rfl,f,i⟩:=h;exact⟨d,e,rfl,E.mono c f,ZQ c i⟩
theorem xD:∀{l:List r} {a:List Value},E.rels g a l→a.all plain=true
 |[],a,h=>by rw[show a=[] from h];rfl
 |x :: l,a,h=>by obtain⟨d,e,rfl,b,c⟩:=h;rw[List.all_append,E.flat b,xD c];rfl
theorem ku:∀{l c:List r} {a b:List Value},E.rels g a l→E.rels g b c→E.rels g (a++b) (l++c)
 |[],c,a,b,h,d=>by rw[show a=[] from h];exact d
 |x :: l,c,a,b,h,d=>by obtain⟨e,f,rfl,i,j⟩:=h;exact⟨e,f++b,by simp,i,ku j d⟩
theorem Jd(h:E.rel g m O):E.rels g m [O]:=⟨m,[],by simp,h,rfl⟩
theorem qu:∀{l:List r} {a:List Value} (k:Nat),E.rels g a l→E.rels g (a.drop (k*E.n)) (l.drop k)
 |l,a,0,h=>by simpa using h
 |[],a,k+1,h=>by rw[show a=[] from h];simp;rfl
 |x :: l,a,k+1,h=>by
  obtain⟨b,f,rfl,c,d⟩:=h
  have:=qu k d
  have e:(k+1)*E.n=b.length+k*E.n:=by rw[E.len c,Nat.succ_mul,Nat.add_comm]
  rw[e,List.drop_append,List.drop_of_length_le (by omega)]
  simpa using this
theorem wj:∀{l:List r} {a:List Value} (k:Nat),E.rels g a l→E.rels g (a.take (k*E.n)) (l.take k)
 |l,a,0,h=>by simp;rfl
 |[],a,k+1,h=>by rw[show a=[] from h];simp;rfl
 |x :: l,a,k+1,h=>by
  obtain⟨b,d,rfl,c,f⟩:=h
  have:=wj k f
  have e:(k+1)*E.n=b.length+k*E.n:=by rw[E.len c,Nat.succ_mul,Nat.add_comm]
  refine⟨b,d.take (k*E.n),?_,c,this⟩
  rw[e,List.take_append,List.take_of_length_le (by omega)]
  simp
theorem hO(h:E.rels g m D)(c:D[d]?= some O):E.rel g ((m.drop (d*E.n)).take E.n) O:=by
 have b:=qu d h;have i:d<D.length:=(List.getElem?_eq_some_iff.1 c).1;have f:D.drop d=O :: D.drop (d+1):=by rw[List.drop_eq_getElem_cons i];congr 1;exact(List.getElem?_eq_some_iff.1 c).2
 rw[f]at b;obtain⟨j,k,e,a,_⟩:=b;rw[e,List.take_append,List.take_of_length_le (by rw[E.len a];exact Nat.le_refl _),E.len a]
 simpa using a
theorem Xr(h:E.rels g m D)(f:d<D.length)(b:E.rel g P O):E.rels g (m.take (d*E.n)++P++m.drop (d*E.n+P.length)) (D.set d O):=by
 have c:=wj d h;have a:=qu (d+1) h;have e:(d+1)*E.n=d*E.n+P.length:=by rw[E.len b,Nat.succ_mul]
 rw[e]at a;have:=ku (ku c (Jd b)) a;rw[List.set_eq_take_append_cons_drop,iP f]
 simpa using this
theorem ya(h:E.rel g m O):∀(n:Nat),E.rels g ((List.replicate n m).flatten) (List.replicate n O)
 |0=>rfl
 |n+1=>⟨m,(List.replicate n m).flatten,by simp[List.replicate_succ],h,ya h n⟩
def Zy{α:Type}(A:ee α):ee (List α) where
 n:=1
 agg:=false
 rel v cs l:=∃q cap,cs=[.slice q l.length cap]∧l.length≤cap∧cap≤maxLen∧
  (l=[]∨ ∃b off c T fr,q=some ⟨b,off,none⟩∧v b=some (.cells c T fr)∧A.rels v ((c.toList.drop off).take (l.length*A.n)) l)
 len h:=by obtain⟨q,cap,rfl,_⟩:=h;rfl
 mono hv h:=by
  obtain⟨q,cap,rfl,h1,h2,h3⟩:=h;refine⟨q,cap,rfl,h1,h2,?_⟩;rcases h3 with h3 |⟨b,off,c,T,fr,e,hb,hr⟩
  ·exact .inl h3
  ·exact .inr ⟨b,off,c,T,fr,e,hv _ _ hb,ZQ hv hr⟩
 flat h:=by obtain⟨q,cap,rfl,_⟩:=h;rfl
theorem Db(A:ee r)(v:Zb):(Zy A).rel v [.slice none 0 0] ([]:List r):=⟨none,0,rfl,Nat.le_refl _,Nat.zero_le _,.inl rfl⟩
theorem ly{A:ee r}{i:Nat}(h:(Zy A).rel g [.slice U d n] D)(f:D[i]?= some O):
  d=D.length∧∃b a j,U=some ⟨b,a,none⟩∧At g b (a+i*A.n) j∧A.rel g j O:=by
 obtain⟨v,s,e,t,u,m⟩:=h
 cases e
 refine⟨rfl,?_⟩;rcases m with rfl |⟨b,a,c,T,l,rfl,o,q⟩
 ·simp at f
 ·have k:=hO q f;have p:i<D.length:=(List.getElem?_eq_some_iff.1 f).1;refine⟨b,a,_,rfl,⟨c,T,l,o,?_⟩,k⟩;rw[A.len k];have:i*A.n+A.n≤D.length*A.n:=by rw[←Nat.succ_mul];exact mR _ p
  rw[List.drop_take,List.take_take,List.drop_drop,Nat.min_eq_left (by omega)]
theorem YQ(h:(Zy E).rel g m D):∃q a,m=[.slice q D.length a]∧D.length≤a∧a≤maxLen:=by
 obtain⟨q,a,e,b,c,_⟩:=h;exact⟨q,a,e,b,c⟩
def eF(b:Option Nat):Option Addr:=match b with
 |some b=>some ⟨b,0,none⟩
 |none=>none
structure eZ(P:Program)(t e:TypeId)(sz bytes:Nat)(z:Value):Prop where
 ty:P.underlying t=some (.slice e)
 info:(P.info? e).map (λi=>(i.zero,i.size,i.bytes))=some (some z,sz,bytes)
 cells:z.cells.size=sz
 pos:0<sz
theorem Lw(f:W.blk=some d):∀{j:List dY} (i:Nat),(j.filterMap dY.blk).Nodup→(∀x ∈ j,x.blk≠some d)→((j.set i W).filterMap dY.blk).Nodup
 |[],_,h,_=>h
 |x :: l,0,h,c=>by
  rw[List.set_cons_zero,List.filterMap_cons_some f]
  refine List.nodup_cons.2 ⟨λg=>?_,?_⟩
  ·obtain⟨y,a,e⟩:=List.mem_filterMap.1 g
   exact c y (List.mem_cons_of_mem _ a) e
  ·cases b:x.blk with
   |none=>rw[List.filterMap_cons_none b]at h;exact h
   |some k=>rw[List.filterMap_cons_some b]at h;exact(List.nodup_cons.1 h).2
 |x :: l,i+1,h,c=>by
  rw[List.set_cons_succ]
  cases b:x.blk with
  |none=>
   rw[List.filterMap_cons_none b]at h ⊢
   exact Lw f i h λy a=>c y (List.mem_cons_of_mem _ a)
  |some k=>
   rw[List.filterMap_cons_some b]at h ⊢
   refine List.nodup_cons.2 ⟨λg=>?_,Lw f i (List.nodup_cons.1 h).2 λy a=>c y (List.mem_cons_of_mem _ a)⟩
   obtain⟨y,a,e⟩:=List.mem_filterMap.1 g
   rcases List.mem_or_eq_of_mem_set a with a |rfl
   ·exact(List.nodup_cons.1 h).1 (List.mem_filterMap.2 ⟨y,a,e⟩)
   ·rw[f]at e;cases e
    exact c x (List.mem_cons_self ..) b
theorem St.setNew(e:St d h g a b l i c)(n:Nat)(o:Obj)(m:W.blk=some c.heap.size)(q:W.holds (c.alloc o)):St d h g a (b.set n W) l i (c.alloc o):=by
 have f:=e.step (fD.alloc c o) (eL.ext e.vin (fD.alloc c o));refine⟨f.size,f.dfr,f.fr,f.ext,f.vst,λx j=>?_,Lw m n e.nd λx j W=>?_⟩
 ·rcases List.mem_or_eq_of_mem_set j with j |rfl
  ·exact f.loc x j
  ·refine⟨q,λr k=>?_⟩;rw[m]at k;cases k;exact⟨.inl e.ext.size,e.vin.none (Nat.le_refl _)⟩
 ·obtain⟨_,p⟩:=dY.blk_get (e.loc x j).1 W;have:=qO p;omega
theorem St.setSame(e:St d h g a b l i c)(k:b[n]?= some W)(j:a4.blk=W.blk)(p:a4.holds c):St d h g a (b.set n a4) l i c:=by
 refine⟨e.size,e.dfr,e.fr,e.ext,e.vst,λx f=>?_,by rw[MN k j];exact e.nd⟩;rcases List.mem_or_eq_of_mem_set f with f |rfl
 ·exact e.loc x f
 ·exact⟨p,λm o=>(e.loc W (mG k)).2 m (by rw[←j];exact o)⟩
theorem F9{C:Act}{w:World}{ty:TypeId}{sz bytes:Nat}(E:eZ e j B sz bytes q)(x:St d h g a b l C w){i:Nat}{n:List Value}(G:b[i]?= some (.own s B sz Q κ n)){ad:Addr}{m c:Nat}{news:List Value}(o:news.length=m*sz)(H:∀t u,news[t]?= some u→w.cell? (ad.add t)=some u)(hp:news.all plain=true){n':Nat}(a4:n'=Q+m)(O:n'*bytes≤140737488355328)(a6:0<bytes):
  ∃ J K U,(Builtin.append_ #[j,j] ty #[.slice (eF s) Q κ,.slice (some ad) m c]).run e w= .ok (.slice (eF J) n' K) U∧St d h g a (b.set i (.own J B sz n' K (n++news))) l C U:=by
 subst a4;have N:Q+m≤maxLen:=by
  have M:(Q+m)*1≤(Q+m)*bytes:=Nat.mul_le_mul_left _ a6;unfold maxLen;omega
 obtain⟨p,y,S,hs,Y⟩:=info_parts E.info;subst hs;subst Y;have M:=Iz hp;have Z:∀(w:World) (f:Nat),grownCap w (Q+m) f B≤maxLen:=λw f=>grownCap_le_maxLen w (Q+m) f B N;have a8:Q+m≤9223372036854775807:=by simp only[maxLen]at N;omega
 have a7:∀k,(Builtin.zeroCells q.cells k).size=k*p.size:=λk=>by rw[size_zeroCells,E.cells]
 have W:=x.drew;have P:=(x.loc _ (mG G)).1;have L:∀f,f<Q+m→n.length=Q*p.size→
   St d h g a (b.set i (.own (some w.heap.size) B p.size (Q+m) (grownCap w (Q+m) f B) (n++news))) l C (w.drew.alloc (.cells (n.toArray++news.toArray++Builtin.zeroCells q.cells (grownCap w (Q+m) f B-(Q+m))) B)):=by
  intro f ho r;have a3:=grownCap_ge w (Q+m) f B;have z:(n++news).length=(Q+m)*p.size:=by rw[lA,r,o,Nat.add_mul]
  refine W.setNew i _ rfl ⟨z,_,heap_alloc_new w.drew _,a3,Z w f,?_,?_⟩
  ·simp only[Array.size_append,List.size_toArray,a7,r,o,←Nat.add_mul];congr 1;omega
  ·simp only[Array.toList_append,fj];rw[←fj,←z];exact List.take_left
 cases s with
 |none=>
  obtain⟨rfl,rfl,rfl⟩:=P;by_cases hm:m=0
  ·subst hm;have hn:news=[]:=List.eq_nil_of_length_eq_zero (by simpa using o);subst hn;refine⟨none,0,w,?_,x.setSame G rfl ⟨rfl,rfl,rfl⟩⟩;simp[Builtin.append_,run_underlying E.ty,sizeOf,typeInfo,y,Builtin.lenOf,Builtin.firstCells,loadCells,loadCellsFrom,eF]
  ·have v:=run_append_nil (P:=e) w j ty B p q E.ty y S ad m c news o H (by omega) (by omega) (by have X:=O;simp only[Nat.zero_add]at X;omega);have:=L 0 (by omega) (by simp);simp only[Nat.zero_add,List.nil_append]at this ⊢;exact⟨some w.heap.size,_,_,v,by simpa using this⟩
 |some s=>
  obtain⟨r,D,F,a9,a1,a0,R⟩:=P;by_cases I:Q+m≤κ
  ·have a2:Q*p.size+news.length≤D.size:=by rw[o,a0,←Nat.add_mul];exact mR _ I
   have v:=run_append_room (P:=e) w j ty B p E.ty y s Q κ D F ad m c news o H M I a2;refine⟨some s,κ,_,v,x.setRow G rfl rfl ⟨?_,_,setRow_heap w s D _ B _ F,I,a1,?_,?_⟩⟩
   ·rw[lA,r,o,Nat.add_mul]
   ·simp;omega
   ·have z:(n++news).length=(Q+m)*p.size:=by rw[lA,r,o,Nat.add_mul]
    show List.take _ (_++_++_)=_;rw[R,←z];exact List.take_left
  ·have a5:∀t u,n[t]?= some u→w.cell? ((⟨s,0,none⟩:Addr).add t)=some u:=by
    intro t u A;rw[gG,Nat.zero_add];rw[←R,List.getElem?_take]at A;split at A
    ·simp only[World.cell?,F,Option.isSome_none,Bool.false_eq_true,if_false];simpa using A
    ·cases A
   have v:=run_append_grow (P:=e) w j ty B p q E.ty y S ⟨s,0,none⟩ Q κ n r a5 ad m c news o H (by omega) (by omega) (growslice_fits (by omega) O);exact⟨some w.heap.size,_,_,v,L κ (by omega) r⟩
theorem pE(f:St d h g a b l i c){r:Value}(k:ev a x=some q)(m:ev a ε=some τ)(n:(Builtin.append_ #[B,B] j #[q,τ]).run e c= .ok r F):
  (execOp i.eval ⟨s,.call ⟨.builtin .append,#[x,ε],#[B,B]⟩,j,v,t,o⟩).run e c= .ok (.value r) F:=by
 simp[execOp,resolve,invoke,builtin,f.eval k,f.eval m,n]
theorem wk(k:St d h g a b l i c){j sz:Nat}{T:TypeId}(o:b[j]?= some (.own (some Q) T sz A N m)):∀f u,m[f]?= some u→c.cell? ((⟨Q,0,none⟩:Addr).add f)=some u:=by
 intro f u e;obtain⟨r,q,n,v,t,s,p⟩:=(k.loc _ (mG o)).1;rw[gG,Nat.zero_add];rw[←p,List.getElem?_take]at e;split at e
 ·simp only[World.cell?,n,Option.isSome_none,Bool.false_eq_true,if_false];simpa using e
 ·cases e
theorem zU(j:St d h g a b l i c){sz:Nat}{T:TypeId}(p:b[n]?= some (.own (some Q) T sz A N m))(e k:Nat)(s:e+k≤m.length):gM c Q e ((m.drop e).take k):=by
 obtain⟨u,f,o,x,w,v,r⟩:=(j.loc _ (mG p)).1;have q:((m.drop e).take k).length=k:=by simp;omega
 refine⟨f,T,_,o,?_⟩;rw[q];have t:e+k≤A*sz:=by omega
 rw[←r,List.drop_take,List.take_take,Nat.min_eq_left (by omega)]
theorem mr(f:St d h g a b l i c){j sz:Nat}{T:TypeId}(k:b[j]?= some (.own s T sz A N m))(n:0<A):∃e,s=some e:=by
 cases s with
 |none=>obtain⟨o,_⟩:=(f.loc _ (mG k)).1;omega
 |some e=>exact⟨e,rfl⟩
theorem VG(a:Array Value)(n b:Nat)(h:n≤b):(madeCells a (b*a.size)).toList.take (n*a.size)=(List.replicate n a.toList).flatten:=by
 have g:∀m,((List.range (m*a.size)).map λi=>a[i%a.size]!)=(List.replicate m a.toList).flatten:=by
  intro m
  induction m with
  |zero=>simp
  |succ m f=>
   rw[Nat.succ_mul,List.range_add,List.map_append,f,List.replicate_succ',List.flatten_append];congr 1;simp only[List.map_map,List.flatten_cons,List.flatten_nil,List.append_nil];apply List.ext_getElem
   ·simp
   ·intro i c d;have e:i<a.size:=by simpa using c
    simp[Nat.mod_eq_of_lt e,e]
 have c:(madeCells a (b*a.size)).toList=(List.replicate b a.toList).flatten:=by
  unfold madeCells;rw[Array.toList_map,Array.toList_range];exact g b
 rw[c];obtain⟨k,rfl⟩:=Nat.le.dest h;rw[←List.replicate_append_replicate,List.flatten_append];have d:((List.replicate n a.toList).flatten).length=n*a.size:=by simp
 rw[←d];exact List.take_left
theorem Ge{K:Nat}{p:Zb}{v:Zb}{w:World}{sz bytes:Nat}(E:eZ e j B sz bytes q)(m:St K h p a b v i w){l c:Int}(u:0≤l)(z:l≤c)(A:(bytes:Int)*c≤281474976710656)(C:c≤9223372036854775807):
  ∃ n r,(∀{d:Option Nat} {ty:TypeId} {pos:String} {aft:Array Edge} {g:Option (Nat×Bool)} {x y:Operand} {k f:IntKind},ev a x=some (.int k l)→ev a y=some (.int f c)→(execOp i.eval ⟨d,.makeSlice j x y,ty,pos,aft,g⟩).run e w= .ok (.value (.slice (eF (some n)) l.toNat c.toNat)) r)∧
   St K h p a (.own (some n) B sz l.toNat c.toNat (List.replicate l.toNat q.cells.toList).flatten :: b) v i r:=by
 obtain⟨o,F,I,hs,D⟩:=info_parts E.info;subst hs;subst D;have H:∀{d:Option Nat} {ty:TypeId} {pos:String} {aft:Array Edge} {g:Option (Nat×Bool)} {x y:Operand} {k f:IntKind},ev a x=some (.int k l)→ev a y=some (.int f c)→(execOp i.eval ⟨d,.makeSlice j x y,ty,pos,aft,g⟩).run e w= .ok (.value (.slice (eF (some w.heap.size)) l.toNat c.toNat)) (w.alloc (.cells (madeCells q.cells (c.toNat*o.size)) B)):=by
  intro d ty pos aft g x y k f s t;have G:=run_make (P:=e) w j B o q E.ty F I k f l c u z A C;simp[execOp,m.eval s,m.eval t,G,eF]
 refine⟨_,_,H,m.newLoc _ rfl ⟨?_,_,heap_alloc_new w _,by omega,by unfold maxLen;omega,?_,?_⟩⟩
 ·simp[E.cells]
 ·simp[size_madeCells]
 ·rw[←E.cells];exact VG q.cells _ _ (by omega)
theorem St.publish(f:St d h g a b l i c)(w:b[n]?= some W)(u:W.blk=some A)(H:c.heap[A]?= some χ)(K:β=b.eraseIdx n):
  ∃ r,l.le r∧r A=some χ∧St d h g a β r i c:=by
 subst K;obtain⟨_,I⟩:=f.loc W (mG w);obtain⟨F,C⟩:=I A u;refine⟨λk=>if k=A then some χ else l k,λk x e=>?_,by simp,f.size,f.dfr,f.fr,f.ext,⟨λk x e=>?_,λk x e=>?_,λk e B=>?_⟩,λx J=>?_,?_⟩
 ·have:k≠A:=λW=>by subst W;rw[C]at e;cases e
  simp[this,e]
 ·have q:=f.vst.le k x e;have:k≠A:=λW=>by subst W;rw[C]at q;cases q
  simp[this,q]
 ·by_cases z:k=A
  ·subst z;simp at e;subst e;exact H
  ·simp[z]at e;exact f.vin k x e
 ·have:k≠A:=by
   rintro rfl;rcases F with t |t
   ·omega
   ·exact B t
  simp[this,f.vst.old k e B]
 ·obtain⟨j,o⟩:=List.getElem?_of_mem J;rw[List.getElem?_eraseIdx]at o;have s:∀p,b[p]?= some x→p≠n→x.holds c∧∀m,x.blk=some m→(h.wd.heap.size≤m∨m ∈ h.lent)∧(if m=A then some χ else l m)=none:=by
   intro p y G;obtain⟨D,E⟩:=f.loc x (mG y);refine⟨D,λm v=>?_⟩;have:=CC f.nd w u p x y G m v;simp[this,E m v]
  split at o
  ·exact s j o (by omega)
  ·exact s (j+1) o (by omega)
 ·exact((List.eraseIdx_sublist b n).filterMap dY.blk).nodup f.nd
theorem St.pubSlice{v:Zb}{k:Act}{A:ee r}(f:St d h g a b v k c){i n sz:Nat}{T:TypeId}{l:List r}{ℓ':List dY}(j:b[i]?= some (.own s T sz n N m))(D:sz=A.n)(z:n=l.length)(C:A.rels v m l)(p:ℓ'=b.eraseIdx i):∃e,v.le e∧St d h g a ℓ' e k c∧(Zy A).rel e [.slice (eF s) n N] l:=by
 subst D;subst z
 cases s with
 |none=>
  subst p;obtain⟨t,rfl,_⟩:=(f.loc _ (mG j)).1;refine⟨v,Zb.le_refl _,f.drop (List.eraseIdx_sublist b i),none,0,rfl,by omega,by unfold maxLen;omega,.inl (List.eq_nil_of_length_eq_zero t)⟩
 |some s=>
  obtain⟨F,q,y,B,x,G,E⟩:=(f.loc _ (mG j)).1;obtain⟨e,o,w,u⟩:=f.publish j rfl y p;refine⟨e,o,u,some ⟨s,0,none⟩,N,rfl,B,x,.inr ⟨s,0,q,T,_,rfl,w,?_⟩⟩;rw[List.drop_zero,E];exact ZQ o C
theorem St.pubBox(f:St d h g a b l i c){T:TypeId}(j:b[n]?= some (.box A T m))(q:β=b.eraseIdx n):∃e,l.le e∧St d h g a β e i c∧e A=some (.cells m.toArray T (0,0)):=by
 obtain⟨e,p,o,k⟩:=f.publish j rfl (f.loc _ (mG j)).1 q;exact⟨e,p,k,o⟩
theorem yz{T:TypeId}(h:g d=some (.cells m.toArray T Θ))(b:Nat)(a:List Value)(e:(m.drop b).take a.length=a):At g d b a:=⟨_,_,_,h,by simpa using e⟩
theorem Yd{w0:dW}(f:St d w0 g a b l i c)(m:jf e j B E.n)(hr:(Zy E).rel l [.slice U n A] D)(h0:0≤y)(h1:y≤K)(h2:K≤D.length):
  ∃ z u,(∀{F:Option Nat} {N:TypeId} {M:String} {C:Array Edge} {G:Option (Nat×Bool)} {x:Operand} {lo s:Option Operand},ev a x=some (.slice U n A)→((lo=none∧y=0)∨ ∃p k,lo=some p∧ev a p=some (.int k y))→((s=none∧K=D.length)∨ ∃p k,s=some p∧ev a p=some (.int k K))→
   (execOp i.eval ⟨F,.slice j x lo s none,N,M,C,G⟩).run e c= .ok (.value (.slice z (K-y).toNat u)) c)∧(Zy E).rel l [.slice z (K-y).toNat u] ((D.take K.toNat).drop y.toNat):=by
 obtain⟨z,u,P,hl,hm,Y⟩:=hr
 cases P
 have H:((D.take K.toNat).drop y.toNat).length=(K-y).toNat:=by simp;omega
 have a2:K≤A:=by omega
 refine⟨if A=y.toNat then U else U.map (·.add (y.toNat*E.n)),A-y.toNat,?_,?_⟩
 ·intro F N M C G x lo s q R Q;have v:(K-y).toNat=K.toNat-y.toNat:=by omega
  rw[v];rcases R with⟨rfl,rfl⟩ |⟨p,k,rfl,I⟩ <;> rcases Q with⟨rfl,rfl⟩ |⟨y',k',rfl,J⟩
  ·simp[execOp,Instr.sliceAt,Instr.slice,Instr.sliceBounds,f.eval q,m.1,m.2]
  ·have hc:¬((A:Int)<K):=by omega
   have o:0≤K∧K≤A:=by omega
   simp[execOp,Instr.sliceAt,Instr.slice,Instr.sliceBounds,Instr.sliceBound,asIntOf,f.eval q,f.eval J,m.1,m.2,o]
  ·have o:0≤y∧y≤D.length:=by omega
   simp[execOp,Instr.sliceAt,Instr.slice,Instr.sliceBounds,Instr.sliceBound,asIntOf,f.eval q,f.eval I,m.1,m.2,o]
  ·have o:0≤K∧K≤A:=by omega
   have W:0≤y∧y≤(K.toNat:Int):=by omega
   have X:y≤max K 0:=by omega
   simp[execOp,Instr.sliceAt,Instr.slice,Instr.sliceBounds,Instr.sliceBound,asIntOf,f.eval q,f.eval I,f.eval J,m.1,m.2,o,W,X]
 ·refine⟨_,_,by rw[H],by omega,by omega,?_⟩;rcases Y with rfl |⟨O,w,t,T,S,rfl,o,a1⟩
  ·left;simp
  ·by_cases L:(D.take K.toNat).drop y.toNat=[]
   ·exact .inl L
   ·right;have a3:y.toNat<K.toNat:=by
     rcases Nat.lt_or_ge y.toNat K.toNat with h |h
     ·exact h
     ·exact absurd (List.drop_of_length_le (by simp;omega)) L
    have a0:¬A=y.toNat:=by omega
    rw[iN a0];refine⟨O,w+y.toNat*E.n,t,T,S,by simp[gG],o,?_⟩;have:=qu y.toNat (wj K.toNat a1);rw[H];have v:(List.drop (y.toNat*E.n) (List.take (K.toNat*E.n) (List.take (D.length*E.n) (List.drop w t.toList))))=List.take ((K-y).toNat*E.n) (List.drop (w+y.toNat*E.n) t.toList):=by
     have Z:K.toNat*E.n≤D.length*E.n:=mR _ (by omega);rw[List.take_take,Nat.min_eq_left Z,List.drop_take,List.drop_drop];congr 1;have:(K-y).toNat=K.toNat-y.toNat:=by omega
     rw[this,Nat.sub_mul]
    rw[v]at this;exact this
def dX{a:Type}(l:List a)(i:Int):Option a:=if 0≤i then l[i.toNat]? else none
theorem Zr(h:dX D y=some O):0≤y∧D[y.toNat]?= some O∧y<D.length∧y.toNat<D.length:=by
 unfold dX at h;split at h
 ·have:=(List.getElem?_eq_some_iff.1 h).1;exact⟨‹_›,h,by omega,this⟩
 ·cases h
theorem zk(h:D[d]?= some O):dX D (d:Int)=some O:=by simp[dX,h]
theorem Nv(h:(Zy E).rel g [.slice (some ⟨d,n,none⟩) A N] D)(f:D[Q]?= some O):
  ∃ a,At g d (n+Q*E.n) a∧E.rel g a O:=by
 obtain⟨_,i,j,a,e,b,c⟩:=ly h f
 cases e
 exact⟨a,b,c⟩
theorem At.sub(h:At g d n m)(k:Nat)(a:List Value)(e:(m.drop k).take a.length=a)(j:k+a.length≤m.length):At g d (n+k) a:=by
 obtain⟨c,T,b,f,i⟩:=h;refine⟨c,T,b,f,?_⟩;rw[←List.drop_drop];rw[←i,List.drop_take,List.take_take,Nat.min_eq_left (by omega)]at e;exact e
theorem pZ(o:St d h g a b l i c){j sz:Nat}{T:TypeId}(p:b[j]?= some (.own (some Q) T sz A N m))(e:(m.drop (a3*sz)).take sz=P)(r:a3<A)(k:Nat)(f:List Value)(n:(P.drop k).take f.length=f)(u:k+f.length≤sz):gM c Q (0+a3*sz+k) f:=by
 obtain⟨t,_⟩:=(o.loc _ (mG p)).1;have s:a3*sz+sz≤A*sz:=by rw[←Nat.succ_mul];exact mR _ r
 have:=zU o p (a3*sz+k) f.length (by omega);rw[Nat.zero_add];have q:(m.drop (a3*sz+k)).take f.length=f:=by
  rw[←e,List.drop_take,List.take_take,Nat.min_eq_left (by omega),List.drop_drop]at n;exact n
 rw[q]at this;exact this
theorem gz(n:St d h g a b l i c)(f:List Value)(p:ZT e L)(k:ev a x=some (.func (.func L) #[] #[]))(m:X.toList.map (ev a)=f.map some):(execOp i.eval ⟨s,.call ⟨.value x,X,Y⟩,j,v,t,o⟩).run e c= .ok (.enter L f.toArray) c:=by
 have:=PG (d:=s) (ty:=j) (pos:=v) (aft:=t) (g:=o) (ats:=Y) n p k m
 simpa using this
theorem YM(p:St d h g a b l i c){m:Fn}(f:List Value)(k:X.toList.map (ev a)=f.map some):
  (execOp i.eval ⟨s,.makeFunc m #[] X,j,v,t,o⟩).run e c= .ok (.value (.func m #[] f.toArray)) c:=by
 have q:X.map i.eval=f.toArray:=by
  apply Array.ext';rw[Array.toList_map];generalize X.toList=n at k
  induction n generalizing f with
  |nil=>cases f <;> simp_all
  |cons y n r=>
   cases f with
   |nil=>simp at k
   |cons u f=>simp at k;simp[p.eval k.1,r _ k.2]
 simp[execOp,Instr.makeFunc,q]
theorem oU(m:St d h g a b l i c)(f:ev a x=some q)(k:∀c,(convert B ζ q).run e c= .ok τ c):
  (execOp i.eval ⟨s,.convert B ζ x,j,v,t,o⟩).run e c= .ok (.value τ) c:=by
 simp[execOp,m.eval f,k]
def C9(P:Program)(s t:TypeId)(a k:IntKind):Prop:=∀(n:Int) (w:World),(convert s t (.int a n)).run P w= .ok (.int k (k.wrap n)) w
theorem OS(C:St d h g a b l i c){m:Array (Nat×Operand)}(f:List (Nat×Value)){z:Value}(k:m.toList.map (λp=>(ev a p.2).map λy=>(p.1,y))=f.map some)(r:(Instr.build B f.toArray).run e c= .ok z c):(execOp i.eval ⟨s,.build B m,j,v,t,o⟩).run e c= .ok (.value z) c:=by
 have D:m.map (λ(E,x)=>(E,i.eval x))=f.toArray:=by
  apply Array.ext';rw[Array.toList_map];generalize m.toList=w at k;clear r
  induction w generalizing f with
  |nil=>cases f <;> simp_all
  |cons y w F=>
   cases f with
   |nil=>simp at k
   |cons u f=>
    simp at k;obtain⟨⟨G,n,q⟩,A⟩:=k;obtain⟨H,I⟩:=y;simp only at n q;simp[C.eval n,F _ A,←q]
 simp[execOp,D,r]
theorem BC{P:Program}{K:Nat}{v:Zb}{t e:TypeId}{sz n:Nat}{vals:List (Nat×Value)}{cs:List Value}(q:St K h v a b l i c)(j:cs.length=n*sz)(A:n≤maxLen)(r:∀c,(Instr.buildSlice t n vals.toArray).run P c= .ok (.slice (some ⟨c.heap.size,0,none⟩) n n) (c.alloc (.cells cs.toArray e))):
  ∃ k w,(∀{d:Option Nat} {ty:TypeId} {pos:String} {aft:Array Edge} {g:Option (Nat×Bool)} {ps:Array (Nat×Operand)},ps.toList.map (λp=>(ev a p.2).map λy=>(p.1,y))=vals.map some→(execOp i.eval ⟨d,.buildSlice t n ps,ty,pos,aft,g⟩).run P c= .ok (.value (.slice (eF (some k)) n n)) w)∧St K h v a (.own (some k) e sz n n cs :: b) l i w:=by
 have B:∀{ps:Array (Nat×Operand)},ps.toList.map (λp=>(ev a p.2).map λy=>(p.1,y))=vals.map some→ps.map (λ(C,x)=>(C,i.eval x))=vals.toArray:=by
  intro ps f;apply Array.ext';rw[Array.toList_map];generalize ps.toList=s at f;clear r
  induction s generalizing vals with
  |nil=>cases vals <;> simp_all
  |cons y s D=>
   cases vals with
   |nil=>simp at f
   |cons u vals=>
    simp at f;obtain⟨⟨E,m,o⟩,z⟩:=f;obtain⟨F,G⟩:=y;simp only at m o;simp[q.eval m,D z,←o]
 refine⟨_,_,λf=>by simp[execOp,B f,r c,eF],q.newLoc (.cells cs.toArray e) rfl ⟨j,cs.toArray,heap_alloc_new c _,Nat.le_refl _,A,by simpa using j,?_⟩⟩;rw[←j];simp
theorem ZcA(f:Nat→Option (Nat×Nat))(d:Array Value)(i:Nat)(x:Value)(a:List Value)(hp:f i=some (0,a.length))(e:x.cells=a.toArray)(o:d.size=a.length):Instr.fill f d [(i,x)]=some a.toArray:=by
 have q:∀(l:List Value) (k:Nat) (b:Array Value),b.size=k+l.length→(l.zipIdx k).foldl (λa (c,j)=>a.setIfInBounds (0+j) c) b=(b.toList.take k++l).toArray:=by
  intro l
  induction l with
  |nil=>
   intro k b h;have m:b.size=k:=by simpa using h
   rw[←m];simp only[List.zipIdx_nil,List.foldl_nil,List.append_nil];rw[List.take_of_length_le (by simp)]
  |cons y l p=>
   intro k b h;simp only[List.zipIdx_cons,List.foldl_cons];rw[p (k+1) _ (by simp at h ⊢;omega)];congr 1;simp only[Array.toList_setIfInBounds,Nat.zero_add];rw[List.take_set,List.set_eq_take_append_cons_drop,iP (by simp at h ⊢;omega)];simp at h;have g:((b.toList.take (k+1)).drop (k+1))=[]:=List.drop_of_length_le (by simp;omega);rw[List.take_take,Nat.min_eq_left (by omega),g];simp
 have n:¬(x.cells.size≠a.length ||decide (0+x.cells.size>d.size)):=by simp[e,o]
 unfold Instr.fill;simp only[hp];rw[iN n];unfold Instr.fill;congr 1;rw[e];have:=q a 0 d (by omega);rw[←Array.foldl_toList]
 simpa using this
theorem Ph{sz bytes:Nat}(E:eZ e j B sz bytes q){x:Value}{cs:List Value}(g:cellsOf x cs)(b:cs.length=sz)(hs:sz≤16777216)(w:World):
  (Instr.buildSlice j 1 #[(0,x)]).run e w= .ok (.slice (some ⟨w.heap.size,0,none⟩) 1 1) (w.alloc (.cells cs.toArray B)):=by
 obtain⟨m,d,h,f,l⟩:=info_parts E.info;have c:¬sz=0:=by have:=E.pos;omega
 have k:¬(1*sz>2^24):=by omega
 have a:=ZcA (λi=>some (i*sz,sz)) ((Array.range (1*sz)).map (q.cells[· % q.cells.size]!)) 0 x cs (by simp[b]) g (by simp[b]);simp only[Nat.one_mul]at a;simp[Instr.buildSlice,run_underlying E.ty,sizeOf,typeInfo,d,f,zeroValue,h,c,a,newRow,show¬(16777216<sz) by omega]
theorem jN{i:List (Nat×Value)}{a:Act}(t:Region.wanted w (yielded k a.tmps)=true)(r:w.dst=some n)(m:n<d)(s:(execOp a.eval w).run e c= .ok (.value q) F)(o:St d h g i b l a F)(j:∀a,St d h g ((n,q) :: i) b l a F→wpList e k f p a F):wpList e k f (w :: p) a c :=
 md t (qt s (by rw[r];exact j _ (o.put q m)))
def kS:Nat→List Value→List (Nat×Value)
 |_,[]=>[]
 |k,x :: l=>(k,x) :: kS (k+1) l
theorem UV:∀(l:List Value) (k t:Nat) (x:Value),look (kS k l) t=some x→k≤t∧l[t-k]?= some x
 |[],k,t,x,h=>by cases h
 |y :: l,k,t,x,h=>by
  by_cases a:k=t
  ·subst a;rw[show kS k (y :: l)=(k,y) :: kS (k+1) l from rfl,v7 rfl]at h;cases h;simp
  ·rw[show kS k (y :: l)=(k,y) :: kS (k+1) l from rfl,Cj a]at h
   obtain⟨c,b⟩:=UV l (k+1) t x h
   refine⟨by omega,?_⟩
   have:t-k=t-(k+1)+1:=by omega
   rw[this];simpa using b
theorem St.enter{K:Nat}(j:fc g c)(a:List Value)(k:a.length≤K):
  St K c g (kS 0 a) [] g { tmps:=a.toArray++Array.replicate (K-a.toArray.size) undef,defers:=[] } c :=
 ⟨by simp;omega,rfl,λt x h=>by
  obtain⟨_,b⟩:=UV a 0 t x h
  have i:t<a.length:=(List.getElem?_eq_some_iff.1 b).1
  have d:a[t]=x:=(List.getElem?_eq_some_iff.1 b).2
  simp[Array.getElem?_append,i,d],fb.refl (c:dW),⟨Zb.le_refl _,j,λ_ _ _=>rfl⟩,λe f=>(by cases f),by simp⟩
theorem CM{K:Nat}{args:List Value}(m:fc g c)(k:e.funcs[L]?= some π)(j:π.body=some μ)(i:π.ntmps=K)(l:args.length≤K)(h:∀a,St K c g (kS 0 args) [] g a c→μ.wp e (bodyPost e π λf d=>∃r b,f= .returned r∧fD c d∧eL c g d b∧M r b) a c):fM e L args.toArray c g M :=
 calls_of_wp k j (by subst i;exact h _ (St.enter m args l))
def lX(P:Program)(a:Array Value)(w:World)(r:ResultVar)(y:Value):Prop:=(match r with
 |.tmp t=>pure (a.getD t undef)
 |.cell x t=>do loadVar t (←asAddr (a.getD x undef)):Sem Value).run P w= .ok y w
theorem gO(j:St d h g a b l i c){t:Nat}{y:Value}(f:look a t=some y):lX e i.tmps c (.tmp t) y:=by
 have:=j.fr t y f;unfold lX;simp only[this];rfl
theorem tV(j:St d h g a b l i c)(f:look a n=some (.pointer (some ⟨N,0,none⟩)))(p:eS e A Q true)(o:m.length=Q)(k:gM c N 0 m):lX e i.tmps c (.cell n A) (.agg m.toArray):=by
 have:=j.fr n _ f;unfold lX;simp only[this];simp[asAddr,Rr p o k]
theorem tW(j:St d h g a b l i c)(f:look a n=some (.pointer (some ⟨N,0,none⟩)))(m:eS e A Q false)(k:gM c N 0 [q]):lX e i.tmps c (.cell n A) q:=by
 have:=j.fr n _ f;unfold lX;simp only[this];simp[asAddr,NP m k]
def HF(a:Array Value):ResultVar→Sem Value
 |.tmp t=>pure (a.getD t undef)
 |.cell x t=>do loadVar t (←asAddr (a.getD x undef))
theorem My(c:Func)(a:Array Value):results c a=(do let b ←c.results.mapM (HF a);pure (if h:b.size=1 then b[0] else .tuple b)):=by
 unfold results;have:(λr:ResultVar=>(match r with
   |.tmp t=>pure (a.getD t undef)
   |.cell x t=>do loadVar t (←asAddr (a.getD x undef)):Sem Value))=HF a:=by funext r;cases r <;> rfl
 rw[←this];rfl
theorem Fx{r:ResultVar}(h:lX e C c r q):(HF C r).run e c= .ok q c:=by cases r <;> exact h
theorem kl{fn:Func}{r:ResultVar}(h:fn.results= #[r])(a:lX e C c r q):(results fn C).run e c= .ok q c:=by
 have a:=Fx a;rw[My,h];simp[a]
theorem Gw{d f:ResultVar}(h:π.results= #[d,f])(a:lX e C c d q)(b:lX e C c f τ):(results π C).run e c= .ok (.tuple #[q,τ]) c:=by
 have a:=Fx a;have b:=Fx b;rw[My,h];simp[a,b]
theorem yp(f:St d F g a b l i c)(n:(results π i.tmps).run e c= .ok q c)(h:M q l):
  bodyPost e π (λm k=>∃r j,m= .returned r∧fD F k∧eL F g k j∧M r j) .ret i c :=
 ⟨f.dfr,q,n,q,l,rfl,f.ext.ext,f.vst.ext,h⟩
theorem nt{a:Act}(J:Act→World→Prop)(d:∀N:Act→World→Prop,(∀a c,J a c→N a c)→μ.wp e (Exit.then N f) a c)(g:∀a c,J a c→f .normal a c):μ.wp e f a c :=
 Code.wp_mono (λb a c h=>by cases b <;> first |exact g _ _ h |exact h) (d J λ_ _ h=>h)
theorem EE(h:(∃a,(Sum.inl O:r ⊕ θ)= .inl a∧Zg I d a=some Δ)∨(Sum.inl O:r ⊕ θ)= .inr Δ):Zg I d O=some Δ:=by
 rcases h with⟨a,e,h⟩ |h
 ·cases e;exact h
 ·cases h
theorem zh{a:θ}(h:(∃b,(Sum.inr Δ:r ⊕ θ)= .inl b∧Zg I d b=some a)∨(Sum.inr Δ:r ⊕ θ)= .inr a):Δ=a:=by
 rcases h with⟨b,e,h⟩ |h
 ·cases e
 ·cases h;rfl
theorem St.bool(j:St d h g a b l i c){t:Nat}{f:Bool}(k:look a t=some (.bool G))(e:G=f):St d h g ((t,.bool f) :: a) b l i c:=j.learn (by rw[j.fr t _ k,e])
theorem Ba{A:ee r}(h:(Zy A).rel g m D):eJ .i64 (D.length:Int):=by
 obtain⟨q,b,_,c,a⟩:=YQ h;unfold maxLen at a;rw[gT];omega
theorem Ls(j:St d h g a b l i c){sz:Nat}{T:TypeId}(k:b[n]?= some (.own s T sz A N m)):eJ .i64 (A:Int):=by
 have:=(j.loc _ (mG k)).1
 cases s with
 |none=>obtain⟨e,_⟩:=this;subst e;decide
 |some s=>obtain⟨_,o,_,p,f,_⟩:=this;unfold maxLen at f;rw[gT];omega
theorem UG(f:St d h g a b l i c){k:Bool}(m:ev a x=some (.bool G))(n:ev a ε=some (.bool k))(p:∀c,(binOp a1 B (.bool G) (.bool k)).run e c= .ok q c):(execOp i.eval ⟨s,.binOp a1 B x ε ζ,j,v,t,o⟩).run e c= .ok (.value q) c:=by
 cases a1 <;> simp[execOp,f.eval m,f.eval n,eqGuard,p]
theorem Ru(k:St d h g a b l i c)(f:ev a x=some (.bool G)):(execOp i.eval ⟨s,.unOp .not B x,j,v,t,o⟩).run e c= .ok (.value (.bool !G)) c:=by
 simp[execOp,k.eval f,Op.unary]
theorem uj(k:St d h g a b l i c)(f:ev a x=some (.int u y)):(execOp i.eval ⟨s,.unOp .neg B x,j,v,t,o⟩).run e c= .ok (.value (.int u (u.wrap (-y)))) c:=by
 simp[execOp,k.eval f,Op.unary,Op.intArith]
theorem Zp{N:Act→World→Prop}(h:N i c):Exit.then N f .normal i c:=h
theorem iu{N:Act→World→Prop}{id:Nat}(h:f (.exit id) i c):Exit.then N f (.exit id) i c:=h
theorem Bx{N:Act→World→Prop}(h:f .ret i c):Exit.then N f .ret i c:=h
theorem mX{id:Nat}(h:f .normal i c):Exit.inBlock id f .normal i c:=h
theorem Tk{id:Nat}(h:f .ret i c):Exit.inBlock id f .ret i c:=h
theorem iU(m:St d h g a b l i c){y:Code}(j:ev a x=some (.bool G))(n:G=true)(k:μ.wp e f i c):(Code.cond x μ y).wp e f i c :=
 wp_cond_true (by rw[m.eval j,n]) k
theorem gn(m:St d h g a b l i c){y:Code}(j:ev a x=some (.bool G))(n:G=false)(k:y.wp e f i c):(Code.cond x μ y).wp e f i c :=
 wp_cond_false (by rw[m.eval j,n]) k
theorem qN{a:Act}(q:Zg I d O=some Δ)(g:r→Act→World→Prop)(m:g O a c)(u:∀s a c b,g s a c→I s=some b→∀N:Act→World→Prop,(∀i,b= .inl i→∀a c,g i a c→N a c)→(∀k,b= .inr k→k=Δ)→μ.wp e (Exit.then N f) a c):(Code.loop μ).wp e f a c:=by
 refine fy (λd a c=>∃s,Zg I d s=some Δ∧g s a c) d ⟨O,q,m⟩ (λa c ⟨s,h,_⟩=>V5 h) ?_;rintro d a c ⟨s,h,n⟩ N p;obtain⟨b,t,l⟩:=ZeE h;refine u s a c b n t N (λi j a c o=>p a c ⟨i,?_,o⟩) (λk j=>?_)
 ·subst j;exact EE l
 ·subst j;exact zh l
theorem MO:∀{c:List Nat} {d:List dY},c.map (b[·]?)=d.map some→∀e ∈ d,∃i ∈ c,b[i]?= some e
 |[],[],_,e,a=>by cases a
 |i :: c,x :: d,h,e,a=>by
  simp at h
  rcases List.mem_cons.1 a with rfl |a
  ·exact⟨i,List.mem_cons_self ..,h.1⟩
  ·obtain⟨j,g,f⟩:=MO (by simpa using h.2) e a
   exact⟨j,List.mem_cons_of_mem _ g,f⟩
 |[],_ :: _,h,_,_=>by simp at h
 |_ :: _,[],h,_,_=>by simp at h
theorem OT(g:(b.filterMap dY.blk).Nodup):∀{c:List Nat} {d:List dY},c.map (b[·]?)=d.map some→c.Nodup→(d.filterMap dY.blk).Nodup
 |[],[],_,_=>by simp
 |i :: c,x :: d,h,f=>by
  simp at h
  have k:=OT g (by simpa using h.2) (List.nodup_cons.1 f).2
  cases a:x.blk with
  |none=>rw[List.filterMap_cons_none a];exact k
  |some l=>
   rw[List.filterMap_cons_some a]
   refine List.nodup_cons.2 ⟨λo=>?_,k⟩
   obtain⟨y,p,q⟩:=List.mem_filterMap.1 o
   obtain⟨j,m,n⟩:=MO (by simpa using h.2) y p
   exact CC g h.1 a j y n (λe=>(List.nodup_cons.1 f).1 (e▸ m)) l q rfl
 |[],_ :: _,h,_=>by simp at h
 |_ :: _,[],h,_=>by simp at h
theorem St.reorder{ℓ':List dY}(f:St d h g a b l i c)(j:List Nat)(e:j.map (b[·]?)=ℓ'.map some)(k:j.Nodup):St d h g a ℓ' l i c :=
 ⟨f.size,f.dfr,f.fr,f.ext,f.vst,λx n=>by
  obtain⟨o,_,m⟩:=MO e x n
  exact f.loc x (mG m),OT f.nd e k⟩
theorem DV(k:St d h g a b l i c){j sz:Nat}{T:TypeId}(n:b[j]?= some (.own s T sz A N m))(e:κ<A):0+κ*sz+sz≤m.length:=by
 have o:κ*sz+sz≤A*sz:=by rw[←Nat.succ_mul];exact mR _ e
 have:=(k.loc _ (mG n)).1
 cases s with
 |none=>obtain⟨f,_⟩:=this;omega
 |some s=>obtain⟨f,_⟩:=this;omega
def mk(bytes:Nat)(l c:Int):Option Unit:=if 0≤l∧l≤c∧(bytes:Int)*c≤281474976710656∧c≤9223372036854775807 then some () else none
theorem nA{bytes:Nat}(h:mk bytes y K=some Ψ):0≤y∧y≤K∧(bytes:Int)*K≤281474976710656∧K≤9223372036854775807:=by
 unfold mk at h;split at h
 ·assumption
 ·cases h
def ZE{a:Type}(bytes:Nat)(l:List a):Option Unit:=if l.length*bytes≤140737488355328 then some () else none
theorem qU{bytes:Nat}(h:ZE bytes D=some Ψ):D.length*bytes≤140737488355328:=by
 unfold ZE at h;split at h
 ·assumption
 ·cases h
def Z4{b:Type}(l:List b)(lo a:Int):Option (List b):=if 0≤lo∧lo≤a∧a≤l.length then some ((l.take a.toNat).drop lo.toNat) else none
theorem xi{lo:Int}(h:Z4 D lo K=some φ):0≤lo∧lo≤K∧K≤D.length∧φ=(D.take K.toNat).drop lo.toNat∧φ.length=(K-lo).toNat:=by
 unfold Z4 at h;split at h
 ·rename_i a;cases h;refine⟨a.1,a.2.1,a.2.2,rfl,?_⟩;simp;omega
 ·cases h
theorem VC(_:eJ u y)(h:hG u y K=some ξ):eJ u ξ:=by
 unfold hG at h;split at h
 ·cases h
 ·cases h;exact kI _ _
theorem ZlB(hp:eJ u y)(h:ZN u y K=some ξ):eJ u ξ:=by
 unfold ZN at h;split at h
 ·cases h
 ·cases h
  generalize k:(min K.toNat u.bits)=m;have a:(0:Int)<2^m:=Int.pow_pos (by decide);have i:u.min≤0∧0≤u.max:=by cases u <;> decide
  rw[Int.fdiv_eq_ediv_of_nonneg _ (Int.le_of_lt a)];generalize j:(2:Int)^m=c at a;have b:=Int.mul_ediv_add_emod y c;have d:=Int.emod_nonneg y (show c≠0 by omega);have e:=Int.emod_lt_of_pos y a;generalize y / c=K at *;have f:K≤max y 0:=by
   rcases Int.lt_or_le 0 K with h |h
   ·have:1*K≤c*K:=Int.mul_le_mul_of_nonneg_right (by omega) (by omega);omega
   ·omega
  have g:min y 0≤K:=by
   rcases Int.lt_or_le K 0 with h |h
   ·have:c*(K+1)≤1*(K+1):=by
     have:=Int.mul_le_mul_of_nonneg_right (c:=-(K+1)) (show(1:Int)≤c by omega) (by omega);rw[Int.mul_neg,Int.mul_neg]at this;omega
    rw[Int.mul_add]at this;omega
   ·omega
  unfold eJ at *;omega
theorem sQ(h:eJ u y)(a:eJ u K):eJ u (max y K):=by unfold eJ at *;omega
theorem sS(h:eJ u y)(a:eJ u K):eJ u (min y K):=by unfold eJ at *;omega
theorem Z7(h:eJ u y):(Zd u).rel g [.int u y] y:=⟨rfl,h⟩
theorem Ua:ny.rel g [.bool G] G:=rfl
theorem D4(h:R.length≤maxLen):iZ.rel g [.string (Zt R)] R:=⟨rfl,h⟩
theorem qC:E.rels g [] []:=rfl
theorem PK(a:E.rel g m O)(b:E.rels g P D):E.rels g (m++P) (O :: D):=⟨m,P,rfl,a,b⟩
theorem vb{id:Nat}{fl:Array Bool}(o:e.follows .mixedOrders=true)(m:NE p.toArray fl=true)(n:St d h g a b l i c)(k:∀j,j=p.toArray→kY j fl→∀c,St d h g a b l i c→Rg e j f fl (Array.replicate p.length false) i c):(Code.region id p.toArray true).wp e f i c :=
 ZeA o (k _ rfl (YZ m) _ n.drew)
theorem wJ(a:k=p.toArray)(h:p[d]?= some w):k[d]?= some w:=by subst a;simpa using h
theorem YV(s:k=p.toArray)(u:kY k z)(j:Nat)(x:p[j]?= some w)(m:z.getD j false=true∧(Region.ready .any p.toArray J).contains j=true∧η=J.setIfInBounds j true)(v:w.dst=some n)(o:n<d)(r:St d h g a b l i c)(A:Region.wanted w (yielded k i.tmps)=true)(y:(execOp i.eval w).run e c= .ok (.value q) c)(t:∀i,St d h g ((n,q) :: a) b l i c→Rg e k f z η i c):Rg e k f z J i c :=
 ZqA u j (wJ s x) m.1 v (by rw[r.size];exact o) (by subst s;simpa using m.2.1) m.2.2 (.inl ⟨A,y⟩) (t _ (r.put q o))
theorem AW(b:k=p.toArray)(a:kY k z)(d:Region.ready .any p.toArray J=[])(h:f .normal i c):Rg e k f z J i c :=
 OX a (λ_=>h) λg hp=>by subst b;rw[d]at hp;cases hp
theorem ls(b:k=p.toArray)(l:kY k z)(j:Nat)(g:Region.ready .any p.toArray J=[j])(h:Next e k f z J i c j):Rg e k f z J i c :=
 OX l (λa=>by subst b;rw[g]at a;cases a) λq d=>by subst b;rw[g]at d;rw[List.mem_singleton.1 d];exact h
def jE(P:Program)(c:Array Oper)(l:List Oper)(a:Act)(w:World)(J:List Nat):Prop:=∀j ∈ J,∀b,l[j]?= some b→kZ P c b a w
theorem jh:jE e k p i c []:=λ_ h=>by cases h
theorem VM(o:St d h g a b l i c)(t:p[n]?= some w)(s:w.dst=some A)(u:look a A=some q)(x:Region.wanted w (yielded k i.tmps)=true)(v:(execOp i.eval w).run e c= .ok (.value q) c)(r:jE e k p i c Λ):jE e k p i c (n :: Λ):=λy f z j=>by
 rcases List.mem_cons.1 f with rfl |f
 ·rw[t]at j;cases j
  exact⟨A,s,λ_=>by rw[o.fr A q u];exact v,λm=>absurd (x.symm.trans m) (by simp)⟩
 ·exact r y f z j
def td(l:List Oper)(b E a:Array Bool)(p:Nat)(A J:List Nat):Bool :=
 vz l.toArray p [] A&&((List.range l.length).all λj=>!(E.getD j false&&b.getD j false) ||A.contains j ||J.contains j)&&(a==E.setIfInBounds p true)
theorem ZvD{A a:List Nat}(h:td p z J η d A a=true):
  vz p.toArray d [] A=true∧((List.range p.toArray.size).all λj=>!(J.getD j false&&z.getD j false) ||A.contains j ||a.contains j)=true∧η=J.setIfInBounds d true:=by
 simp only[td,Bool.and_eq_true,beq_iff_eq]at h;exact⟨h.1.1,by simpa using h.1.2,h.2⟩
theorem Fv(A b:List Nat)(a:k=p.toArray)(q:p[d]?= some w)(o:td p z J η d A b=true)(t:Region.wanted w (yielded k i.tmps)=true)(h:jB e w i c λx g=>jE e k p (i.put w.dst x) g b∧Rg e k f z η (i.put w.dst x) g):Next e k f z J i c d:=by
 obtain⟨l,m,n⟩:=ZvD o;refine sZ A b (wJ a q) (by subst a;exact l) (by subst a;exact m) n t (IU h λx g ⟨u,v⟩=>⟨λj r y s=>u j r y (by subst a;simpa using s),v⟩)
theorem NC(m j:List Nat)(x:k=p.toArray)(v:p[n]?= some w)(s:td p z J η n m j=true)(t:St d h g a b l i c)(B:Region.wanted w (yielded k i.tmps)=true)(u:w.dst=some A)(r:A<d)(y:(execOp i.eval w).run e c= .ok (.value q) c)(o:∀i,St d h g ((A,q) :: a) b l i c→jE e k p i c j∧Rg e k f z η i c):Next e k f z J i c n :=
 Fv m j x v s B (qt y (by rw[u];exact o _ (t.put q r)))
theorem EP(m j:List Nat)(x:k=p.toArray)(v:p[n]?= some w)(s:td p z J η n m j=true)(B:Region.wanted w (yielded k i.tmps)=true)(u:w.dst=some A)(r:A<d)(y:(execOp i.eval w).run e c= .ok (.value q) F)(t:St d h g a b l i F)(o:∀i,St d h g ((A,q) :: a) b l i F→jE e k p i F j∧Rg e k f z η i F):Next e k f z J i c n :=
 Fv m j x v s B (qt y (by rw[u];exact o _ (t.put q r)))
theorem s4(o m:List Nat)(H:k=p.toArray)(G:p[n]?= some w)(B:td p z J η n o m=true)(D:St d h g a b l i c)(K:Region.wanted w (yielded k i.tmps)=true)(F:w.dst=some A)(y:A<d)(I:(execOp i.eval w).run e c= .ok (.enter L C) c)(E:fM e L C c l M)(v:∀x j i c,l.le j→M x j→St d h g ((A,x) :: a) b j i c→jE e k p i c m∧Rg e k f z η i c):Next e k f z J i c n :=
 Fv o m H G B K (o5 I (Calls.mono E λN O ⟨r,j,s,t,q,u⟩=>⟨r,s,by
  rw[F]
  exact v r j _ _ q.le u ((D.step t q).put r y)⟩))
theorem s7(A a:List Nat)(l:k=p.toArray)(j:p[d]?= some w)(b:td p z J η d A a=true)(n:Region.wanted w (yielded k i.tmps)=true)(g:w.dst=none)(m:(execOp i.eval w).run e c= .ok .skip F)(h:jE e k p i F a∧Rg e k f z η i F):Next e k f z J i c d :=
 Fv A a l j b n (Lr m (by rw[g];exact h))
theorem Fk(m:St d h g a b l i c)(f:List Value)(n:∀c,(callFunc L f.toArray).run e c= .ok (.value q) c)(r:ev a x=some (.func (.func L) #[] #[]))(k:X.toList.map (ev a)=f.map some):(execOp i.eval ⟨s,.call ⟨.value x,X,Y⟩,j,v,t,o⟩).run e c= .ok (.value q) c:=by
 have w:X.map i.eval=f.toArray:=by
  apply Array.ext';rw[Array.toList_map];generalize X.toList=p at k;clear n
  induction p generalizing f with
  |nil=>cases f <;> simp_all
  |cons q p y=>
   cases f with
   |nil=>simp at k
   |cons u f=>
    simp at k;simp[m.eval k.1,y f k.2]
 simp[execOp,resolve,Deferred.ofValue,invoke,w,m.eval r,n c]
def jw(x y c:Int):Option (Int×Int):=if 0≤x∧0≤y∧0≤c∧c≤1 then some ((x+y+c)%18446744073709551616,(x+y+c) / 18446744073709551616) else none
def nI(x y b:Int):Option (Int×Int):=if 0≤x∧0≤y∧0≤b∧b≤1 then some ((x-y-b)%18446744073709551616,if x<y+b then 1 else 0) else none
def GE:Array Value→Sem Value:=λa=>do
 let (x,y,b) ←Extern.MathBitsCarry.three "Sub64" a
 pure (Extern.MathBitsCarry.pair ((x+Extern.MathBitsCarry.m64-y-b)%Extern.MathBitsCarry.m64) (if x<y+b then 1 else 0))
theorem ZkC(x y b:Nat)(a:b≤1)(w:World):
  (GE #[.int .u64 x,.int .u64 y,.int .u64 b]).run e w=
   .ok (.tuple #[.int .u64 (((x+18446744073709551616-y-b)%18446744073709551616:Nat):Int),.int .u64 ((if x<y+b then 1 else 0:Nat):Int)]) w:=by
 have:b=0∨b=1:=by omega
 rcases this with rfl |rfl <;> rfl
def oS(P:Program)(f:FuncId)(e:Array Value→ Sem Value): Prop:=∃a,P.funcs[f]?= some a∧ (a.name== "runtime.NumGoroutine")= false∧ a.body.isNone= true∧ Extern.findNext a= none∧ Extern.find a= some e
theorem oS.run{b:Array Value→Sem Value}(h:oS e L b)(a:Array Value)(w:World):(callFunc L a).run e w=((b a).run e w).andThen λv j=>.ok (.value v) j:=by
 obtain⟨k,c,d,f,g,i⟩:=h;exact run_callFunc_extern c d f g i a w
theorem Ky(f:oS e L add64Entry)(h:jw y K ξ=some α)(w:World):(callFunc L #[.int .u64 y,.int .u64 K,.int .u64 ξ]).run e w= .ok (.value (.tuple #[.int .u64 α.1,.int .u64 α.2])) w:=by
 unfold jw at h;split at h
 ·rename_i g
  cases h
  obtain⟨a,b,c,d⟩:=g;rw[f.run,run_add64 y K ξ a b c d];rfl
 ·cases h
theorem UL(g:oS e L GE)(j:eJ .u64 y)(k:eJ .u64 K)(h:nI y K ξ=some α)(w:World):(callFunc L #[.int .u64 y,.int .u64 K,.int .u64 ξ]).run e w= .ok (.value (.tuple #[.int .u64 α.1,.int .u64 α.2])) w:=by
 unfold nI at h;split at h
 ·rename_i i
  cases h
  obtain⟨c,d,f,l⟩:=i;obtain⟨X,rfl⟩:=oZ c;obtain⟨Y,rfl⟩:=oZ d;obtain⟨C,rfl⟩:=oZ f;rw[g.run,ZkC X Y C (by omega)];have m:(X:Int)≤18446744073709551615:=j.2;have n:(Y:Int)≤18446744073709551615:=k.2;have a:(((X+18446744073709551616-Y-C)%18446744073709551616:Nat):Int)=((X:Int)-Y-C)%18446744073709551616:=by omega
  have b:(((if X<Y+C then 1 else 0:Nat)):Int)=if(X:Int)<Y+C then 1 else 0:=by
   by_cases h:X<Y+C
   ·rw[iP h,iP (by omega)];rfl
   ·rw[iN h,iN (by omega)];rfl
  rw[a,b];rfl
 ·cases h
theorem LH(h:jw y K ξ=some α):eJ .u64 α.1:=by
 unfold jw at h;split at h
 ·cases h;exact⟨by show(0:Int)≤_;omega,by show _≤(18446744073709551615:Int);omega⟩
 ·cases h
theorem qZ(a:eJ .u64 y)(b:eJ .u64 K)(h:jw y K ξ=some α):eJ .u64 α.2:=by
 have c:y≤18446744073709551615:=a.2;have d:K≤18446744073709551615:=b.2;unfold jw at h;split at h
 ·cases h;exact⟨by show(0:Int)≤_;omega,by show _≤(18446744073709551615:Int);omega⟩
 ·cases h
theorem Rx(h:nI y K ξ=some α):eJ .u64 α.1:=by
 unfold nI at h;split at h
 ·cases h;exact⟨by show(0:Int)≤_;omega,by show _≤(18446744073709551615:Int);omega⟩
 ·cases h
theorem OV(h:nI y K ξ=some α):eJ .u64 α.2:=by
 unfold nI at h;split at h
 ·cases h
  split <;> exact⟨by show(0:Int)≤_;omega,by show _≤(18446744073709551615:Int);omega⟩
 ·cases h
theorem iX(h:(Zy E).rel g [.slice U d n] D):d=D.length:=by
 obtain⟨b,a,e,_⟩:=h;cases e;rfl
theorem kF(m:St d h g a b l i c){sz:Nat}(n:A=N)(f:ev a x=some (.slice U A Q))(k:Y[0]?= some B)(p:jf e B ζ sz):
  (execOp i.eval ⟨s,.call ⟨.builtin .len,#[x],Y⟩,j,v,t,o⟩).run e c= .ok (.value (.int .i64 N)) c:=by
 subst n;exact iw m f k p
theorem i5(a:d=n)(h:y<n):y<d:=by rw[a];exact h
theorem n7(a:d=n)(h:A<n):A<d:=by rw[a];exact h
theorem zZ(a:d=n)(h:A<n):0<d:=by omega
theorem oh(a:d=D.length):d=(D.set n O).length:=by rw[List.length_set];exact a
theorem Ac{x:r}:d=(List.replicate d x).length:=by simp
theorem Pb{v:Zb}{w:World}{sz bytes:Nat}(E:eZ e j B sz bytes q)(A:St d h g a b v i w){l c:Int}(s:0≤l)(t:l≤c)(u:(bytes:Int)*c≤281474976710656)(z:c≤9223372036854775807)(C:m=(List.replicate l.toNat q.cells.toList).flatten):
  ∃ f n,(∀{p:Option Nat} {G:TypeId} {F:String} {o:Array Edge} {r:Option (Nat×Bool)} {x y:Operand} {k D:IntKind},ev a x=some (.int k l)→ev a y=some (.int D c)→(execOp i.eval ⟨p,.makeSlice j x y,G,F,o,r⟩).run e w= .ok (.value (.slice (eF (some f)) l.toNat c.toNat)) n)∧
   St d h g a (.own (some f) B sz l.toNat c.toNat m :: b) v i n:=by
 subst C;exact Ge E A s t u z
theorem yw(h:d=D.length)(a:n=φ.length):(D++φ).length=d+n:=by rw[lA,h,a]
theorem qK(h:E.rels g m D)(a:d=D.length):m.length=d*E.n:=by rw[a];exact kK h
theorem yl{a:List Value}{sz m:Nat}(h:E.rels g a D)(c:d<D.length)(b:E.rel g P O)(f:sz=E.n)(e:m=E.n):
  E.rels g (a.take (0+d*sz)++P++a.drop (0+d*sz+m)) (D.set d O):=by
 subst f;subst e;have:=Xr h c b;rw[E.len b]at this;rw[Nat.zero_add];exact this
theorem my(l:List UInt8):(Zt l).size=l.length:=by simp[Zt,ByteArray.size]
theorem TU(l:List UInt8):(Zt l).toList=l:=ByteArray.toList_mk l
theorem uB(h:R.length≤maxLen):eJ .i64 (R.length:Int):=by unfold maxLen at h;rw[gT];omega
theorem Uc(x:UInt8):eJ .u8 (x.toNat:Int):=by
 have:=x.toNat_lt;exact⟨by show(0:Int)≤_;omega,by show _≤(255:Int);omega⟩
theorem SK(m:St d h g a b l i c)(f:ev a x=some (.string (Zt R)))(k:Y[0]?= some B)(n:e.underlying B=some .string):
  (execOp i.eval ⟨s,.call ⟨.builtin .len,#[x],Y⟩,j,v,t,o⟩).run e c= .ok (.value (.int .i64 R.length)) c:=by
 simp[execOp,resolve,invoke,builtin,Builtin.len_,m.eval f,k,run_underlying n,goInt,my]
theorem ZsE(p:St d h g a b l i c){f:UInt8}(q:ev a x=some (.string (Zt R)))(r:ev a ε=some (.int u y))(D:e.underlying B=some .string)(w:dX R y=some f):
  (execOp i.eval ⟨s,.index B x ε,j,v,t,o⟩).run e c= .ok (.value (.int .u8 (f.toNat:Int))) c:=by
 obtain⟨z,n,A,k⟩:=Zr w;have m:=run_index_string (P:=e) c B (Zt R) u y D;have hs:0≤y∧y<(Zt R).size:=⟨z,by rw[my];exact A⟩;rw[dif_pos hs]at m;have C:(Zt R)[y.toNat]'(by rw[my];exact k)=f:=by
  show(R.toArray)[y.toNat]'(by simpa using k)=f;rw[List.getElem?_eq_getElem k]at n
  simpa using n
 rw[C]at m;simp[execOp,p.eval q,p.eval r,m]
theorem QN(l:List UInt8)(p r:Nat):(Zt l).extract p r=Zt ((l.take r).drop p):=by
 unfold Zt;rw[ByteArray.extract_mk,List.drop_take]
theorem WP(f:St d h g a b l i c){lo r:Option Operand}(n:ev a x=some (.string (Zt R)))(m:e.underlying B=some .string)(E:(lo=none∧y=0)∨ ∃Γ k,lo=some Γ∧ev a Γ=some (.int k y))(D:(r=none∧K=R.length)∨ ∃Γ k,r=some Γ∧ev a Γ=some (.int k K))(F:Z4 R y K=some Γ):
  (execOp i.eval ⟨s,.slice B x lo r none,j,v,t,o⟩).run e c= .ok (.value (.string (Zt Γ))) c:=by
 obtain⟨G,H,I,rfl,_⟩:=xi F;have u:K≤(Zt R).size:=by rw[my];exact I
 have J:(List.take K.toNat R).length=K.toNat:=by simp;omega
 have p:Zt ((R.take K.toNat).drop y.toNat)=(Zt R).extract y.toNat K.toNat:=(QN R _ _).symm;rcases E with⟨rfl,rfl⟩ |⟨Γ,k,rfl,w⟩ <;> rcases D with⟨rfl,rfl⟩ |⟨L,A,rfl,z⟩
 ·have:=run_slice_string_all (P:=e) c B (Zt R) m;have C:(Zt R).extract 0 (Zt R).size=Zt R:=by rw[QN,my];simp
  rw[C]at this;simp[execOp,Instr.sliceAt,run_underlying m,f.eval n,this]
 ·have:=run_slice_string_to_if (P:=e) c B (Zt R) A K m;have q:0≤K∧K≤(Zt R).size:=⟨by omega,u⟩;simp[q]at this;rw[p];simp[execOp,Instr.sliceAt,run_underlying m,f.eval n,f.eval z,this]
 ·have:=run_slice_string_from_if (P:=e) c B (Zt R) k y m;have q:0≤y∧y≤(Zt R).size:=⟨by omega,by omega⟩;simp[q]at this;rw[p];simp[execOp,Instr.sliceAt,run_underlying m,f.eval n,f.eval w,this,my]
 ·have:=run_slice_string (P:=e) c B (Zt R) k A y K m G H u;rw[p];simp[execOp,Instr.sliceAt,run_underlying m,f.eval n,f.eval w,f.eval z,this]
theorem It(f:St d h g a b l i c)(k:ev a x=some (.string (Zt R)))(m:ev a ε=some (.string (Zt Γ)))(n:∀c,(binOp a1 B (.string (Zt R)) (.string (Zt Γ))).run e c= .ok q c):(execOp i.eval ⟨s,.binOp a1 B x ε ζ,j,v,t,o⟩).run e c= .ok (.value q) c:=by
 cases a1 <;> simp[execOp,f.eval k,f.eval m,eqGuard,n]
def jg(l:List UInt8):Option Unit:=if l.length≤maxLen then some () else none
theorem HC(h:jg R=some Ψ):R.length≤maxLen:=by
 unfold jg at h;split at h
 ·assumption
 ·cases h
theorem Rs(h:jg (R++Γ)=some Ψ)(w:World):(binOp .add j (.string (Zt R)) (.string (Zt Γ))).run e w= .ok (.string (Zt (R++Γ))) w:=by
 have:=HC h;rw[lA]at this;have a:=run_string_add_sum (P:=e) w (Zt R) (Zt Γ) (by rw[my,my];exact this);have b:Zt R++Zt Γ=Zt (R++Γ):=ByteArray.mk_append_mk R Γ;rw[b]at a
 simpa [binOp] using a
theorem uA(w:World):(binOp .eql j (.string (Zt R)) (.string (Zt Γ))).run e w= .ok (.bool (R==Γ)) w:=by
 simp[binOp,Op.stringOp,TU]
theorem uC(w:World):(binOp .neq j (.string (Zt R)) (.string (Zt Γ))).run e w= .ok (.bool (R != Γ)) w:=by
 simp[binOp,Op.stringOp,TU,bne]
theorem Xk(h:Z4 D y K=some φ)(f:D.length≤d):φ.length≤d:=by
 obtain⟨a,b,c,rfl,e⟩:=xi h;omega
def oY(P:Program)(f:FuncId)(d:Array Value)(w:World)(v:Zb)(b:List Nat)(R:Value→Zb→World→Prop):Prop :=
 Calls P f d w λe a=>∃r c,e= .returned r∧fb ⟨w,b⟩ a∧eO ⟨w,b⟩ v a c∧R r c a
theorem St.lend(j:St d h g a b l i c)(m:b[n]?= some W)(f:W.blk=some A)(u:β=b.eraseIdx n):
  ∃ e o,l.le e∧e A=some o∧St d h g a β e i c∧c.heap[A]?= some o∧l A=none∧(h.wd.heap.size≤A∨A ∈ h.lent):=by
 obtain⟨t,p⟩:=j.loc W (mG m);obtain⟨_,k⟩:=dY.blk_get t f;obtain⟨e,q,r,s⟩:=j.publish m f k u;exact⟨e,_,q,r,s,k,(p A f).2,(p A f).1⟩
def dY.fits(e:dY)(o:Obj):Prop:=∀(w:World) (b:Nat),e.blk=some b→w.heap[b]?= some o→e.holds w
theorem dY.fits_of(a:W.blk=some d)(h:W.holds c)(b:c.heap[d]?= some χ):W.fits χ:=by
 intro u r j e;rw[a]at j;cases j
 cases W with
 |box f T m=>
  cases a
  show _=_;rw[e,←b];exact h
 |own f T sz n t m=>
  cases a
  obtain⟨g,o,i,q⟩:=h;exact⟨g,o,by rw[e,←b];exact i,q⟩
 |mp f l=>
  cases a
  obtain⟨es,k,g,i⟩:=h;exact⟨es,k,by rw[e,←b];exact g,i⟩
 |it f s p=>
  cases a
  show _=_;rw[e,←b];exact h
theorem St.lendOwn(f:St d h g a b l i c)(p:b[n]?= some W)(k:W.blk=some A)(v:β=b.eraseIdx n):
  ∃ e o,l.le e∧e A=some o∧St d h g a β e i c∧W.fits o∧W.holds c∧c.heap[A]?= some o∧l A=none∧(h.wd.heap.size≤A∨A ∈ h.lent):=by
 obtain⟨e,o,q,r,s,j,t,u⟩:=f.lend p k v;have m:=(f.loc W (mG p)).1;exact⟨e,o,q,r,s,dY.fits_of k m j,m,j,t,u⟩
theorem St.takeBack(j:St d h g a b l i c){e:dY}(E:Ω.le l)(r:e.blk=some n)(w:l n=some χ)(A:e.fits χ)(s:Ω n=none)(t:g.le Ω)(B:h.wd.heap.size≤n∨n ∈ h.lent):
  ∃ y,Ω.le y∧St d h g a (e :: b) y i c:=by
 refine⟨λk=>if k=n then none else l k,λk x f=>?_,j.size,j.dfr,j.fr,j.ext,⟨λk x f=>?_,λk x f=>?_,λk f C=>?_⟩,λx q=>?_,?_⟩
 ·have:k≠n:=by rintro rfl;rw[s]at f;cases f
  simp[this,E _ _ f]
 ·have v:=t _ _ f;have:k≠n:=by rintro rfl;rw[s]at v;cases v
  simp[this,j.vst.le _ _ f]
 ·by_cases p:k=n
  ·simp[p]at f
  ·simp[p]at f;exact j.vin k x f
 ·by_cases p:k=n
  ·subst p;simp
   cases F:g k with
   |none=>rfl
   |some x=>have:=t _ _ F;rw[s]at this;cases this
  ·simp[p];exact j.vst.old k f C
 ·rcases List.mem_cons.1 q with rfl |q
  ·refine⟨A c n r (j.vin _ _ w),λm o=>?_⟩;rw[r]at o;cases o;exact⟨B,by simp⟩
  ·obtain⟨z,u⟩:=j.loc x q;refine⟨z,λm o=>⟨(u m o).1,?_⟩⟩;have:=(u m o).2;show(if m=n then none else l m)=none;rw[this];simp
 ·rw[List.filterMap_cons_some r];refine List.nodup_cons.2 ⟨λD=>?_,j.nd⟩;obtain⟨x,q,G⟩:=List.mem_filterMap.1 D;have:=((j.loc x q).2 n G).2;rw[w]at this;cases this
theorem St.afterL(f:St d h g a b l i c)(z:b[n]?= some W)(w:W.blk=some A)(K:a4.blk=some A)(x:fb ⟨c,[A]⟩ F)(s:eO ⟨c,[A]⟩ l F Ω)(P:a4.holds F)(R:Ω A=none):
  St d h g a (b.set n a4) Ω i F:=by
 obtain⟨O,S⟩:=f.loc W (mG z);obtain⟨D,a0⟩:=S A w;obtain⟨_,hg⟩:=dY.blk_get O w;refine⟨f.size,f.dfr,f.fr,⟨x.os.trans f.ext.os,x.tape.trans f.ext.tape,x.output.trans f.ext.output,Nat.le_trans f.ext.size x.size,λk u v=>?_⟩,⟨Zb.le_trans f.vst.le s.le,s.vin,λk u v=>?_⟩,λy U=>?_,?_⟩
 ·have H:k≠A:=by
   rintro rfl;rcases D with q |q
   ·omega
   ·exact v q
  rw[x.block k (Nat.lt_of_lt_of_le u f.ext.size) (by simpa using H)];exact f.ext.block k u v
 ·have H:k≠A:=by
   rintro rfl;rcases D with q |q
   ·omega
   ·exact v q
  rw[s.old k (Nat.lt_of_lt_of_le u f.ext.size) (by simpa using H)];exact f.vst.old k u v
 ·obtain⟨j,t⟩:=List.getElem?_of_mem U;by_cases G:j=n
  ·subst G;have Q:j<b.length:=(List.getElem?_eq_some_iff.1 z).1;rw[List.getElem?_set_self Q]at t
   cases t
   refine⟨P,λY r=>?_⟩;rw[K]at r;cases r;exact⟨D,R⟩
  ·rw[List.getElem?_set_ne (λW=>G W.symm)]at t;obtain⟨m,r⟩:=f.loc y (mG t);have L:=CC f.nd z w j y t G;have B:∀e,y.blk=some e→F.heap[e]?= c.heap[e]?:=λe o=>by
    obtain⟨_,E⟩:=dY.blk_get m o;exact x.block e (qO E) (by simpa using L e o)
   refine⟨?_,λe o=>⟨(r e o).1,?_⟩⟩
   ·cases y with
    |box e M N=>show _=_;rw[B e rfl];exact m
    |own e M sz a2 Z N=>
     cases e with
     |none=>exact m
     |some e=>obtain⟨I,C,J,X⟩:=m;exact⟨I,C,by rw[B e rfl];exact J,X⟩
    |mp e a1=>obtain⟨es,C,I,J⟩:=m;exact⟨es,C,by rw[B e rfl];exact I,J⟩
    |it e s p=>show _=_;rw[B e rfl];exact m
   ·obtain⟨_,E⟩:=dY.blk_get m o;rw[s.old e (qO E) (by simpa using L e o)];exact(r e o).2
 ·rw[MN z (K.trans w.symm)];exact f.nd
theorem TW{K:Nat}{args:List Value}{T:TypeId}(i:fc g c)(q:c.heap[n]?= some (.cells P.toArray T (0,0)))(t:g n=none)(p:e.funcs[L]?= some π)(l:π.body=some μ)(k:π.ntmps=K)(s:args.length≤K)(h:∀a,St K ⟨c,[n]⟩ g (kS 0 args) [.box n T P] g a c→μ.wp e (bodyPost e π λf d=>∃r j,f= .returned r∧fb ⟨c,[n]⟩ d∧eO ⟨c,[n]⟩ g d j∧δ r j d) a c):oY e L args.toArray c g [n] δ:=by
 refine calls_of_wp p l ?_;subst k;refine h _ ?_;have b:=St.enter (K:=π.ntmps) i args s;refine⟨b.size,b.dfr,b.fr,fb.refl ⟨c,[n]⟩,⟨Zb.le_refl _,i,λ_ _ _=>rfl⟩,λf o=>?_,by simp[dY.blk]⟩;rcases List.mem_singleton.1 o with rfl;exact⟨q,λu m=>by cases m;exact⟨.inr (by simp),t⟩⟩
theorem IQ(f:St d ⟨F,[n]⟩ g a b l i c)(o:(results π i.tmps).run e c= .ok q c)(h:δ q l c):
  bodyPost e π (λm j=>∃r k,m= .returned r∧fb ⟨F,[n]⟩ j∧eO ⟨F,[n]⟩ g j k∧δ r k j) .ret i c :=
 ⟨f.dfr,q,o,q,l,rfl,f.ext,f.vst,h⟩
theorem St.boxAt(e:St d h g a b l i c){j:Nat}{T:TypeId}(f:b[j]?= some (.box A T m)):c.heap[A]?= some (.cells m.toArray T (0,0))∧l A=none :=
 ⟨(e.loc _ (mG f)).1,((e.loc _ (mG f)).2 A rfl).2⟩
theorem Cx(p:St d h g a b l i c){j sz:Nat}{T:TypeId}(r:b[j]?= some (.box N T (m++P++a0)))(s:κ=m.length)(v:P.length=A*sz){n:List Value}(e:(P.drop (a3*sz)).take sz=n)(q:a3<A)(k:Nat)(f:List Value)(o:(n.drop k).take f.length=f)(u:k+f.length≤sz):gM c N (κ+a3*sz+k) f:=by
 subst s;have t:a3*sz+sz≤A*sz:=by rw[←Nat.succ_mul];exact mR _ q
 refine p.box r (m.length+a3*sz+k) f ?_;rw[fj,List.drop_append,List.drop_of_length_le (by omega),List.nil_append,List.drop_append_of_le_length (by omega),List.take_append_of_le_length (by simp;omega)];rw[show m.length+a3*sz+k-m.length=a3*sz+k by omega,←List.drop_drop]
 conv=>rhs;rw[←o,←e]
 rw[List.drop_take,List.take_take,Nat.min_eq_left (by omega)]
theorem Y4{o:Act}{w:World}(u:St d h g a b l o w){T:TypeId}{i sz k:Nat}{z:Value}{c f:List Value}(H:eS e j n G)(I:cellsOf z c)(p:c.length=n)(B:b[i]?= some (.box N T (P++a0++f)))(D:κ=P.length)(M:a0.length=A*sz)(C:k<A)(F:n=sz)(hp:c.all plain=true):
  ∃ m,(∀{r:Option Nat} {K:TypeId} {J:String} {q:Array Edge} {t:Option (Nat×Bool)} {x y:Operand},ev a x=some (.pointer (some ⟨N,κ+k*sz,none⟩))→ev a y=some z→(execOp o.eval ⟨r,.store j x y,K,J,q,t⟩).run e w= .ok .skip m)∧
   St d h g a (b.set i (.box N T (P++(a0.take (0+k*sz)++c++a0.drop (0+k*sz+n))++f))) l o m:=by
 subst D;subst F;have L:k*n+n≤A*n:=by rw[←Nat.succ_mul];exact mR _ C
 obtain⟨m,E,v⟩:=J9 u (off:=P.length+k*n) (z:=z) (cs:=c) H I p B (by simp;omega) hp;refine⟨m,E,?_⟩;have s:(P++a0++f).take (P.length+k*n)++c++(P++a0++f).drop (P.length+k*n+c.length)=P++(a0.take (0+k*n)++c++a0.drop (0+k*n+n))++f:=by
  rw[p,Nat.zero_add,fj P a0 f,List.take_append,List.take_of_length_le (by omega),List.drop_append,List.drop_of_length_le (by omega),List.take_append_of_le_length (by omega),List.drop_append_of_le_length (by omega)];simp[Nat.add_sub_cancel_left,show P.length+k*n+n-P.length=k*n+n by omega]
 rw[←s];exact v
theorem uu{T:TypeId}(i:g d=some (.cells (m++P++a0).toArray T Θ))(h:N=m.length)(a:E.rels g P D)(f:n=D.length)(b:n≤A)(c:A≤maxLen):
  (Zy E).rel g [.slice (some ⟨d,N,none⟩) n A] D:=by
 subst f h;refine⟨_,A,rfl,b,c,.inr ⟨d,m.length,_,T,Θ,rfl,i,?_⟩⟩;have j:=kK a;have e:(((m++P++a0).toArray.toList).drop m.length).take (D.length*E.n)=P:=by
  rw[List.toList_toArray,fj,List.drop_left,List.take_append_of_le_length (by omega),List.take_of_length_le (by omega)]
 rw[e];exact a
theorem St.lendSeg{v:Zb}{k:Act}{A:ee r}(s:St d h g a b v k c){i f:Nat}{T:TypeId}{l:List r}{ℓ':List dY}(B:b[i]?= some (.box f T (m++P++a0)))(F:ℓ'=b.eraseIdx i)(D:κ=m.length)(E:A.rels v P l)(C:N=l.length)(q:N≤Q∧Q≤maxLen):
  ∃ j o,v.le j∧j f=some o∧St d h g a ℓ' j k c∧(dY.box f T (m++P++a0)).fits o∧v f=none∧(h.wd.heap.size≤f∨f ∈ h.lent)∧(Zy A).rel j [.slice (some ⟨f,κ,none⟩) N Q] l:=by
 obtain⟨j,o,n,p,t,u,w,x,y,z⟩:=s.lendOwn B rfl F;refine⟨j,o,n,p,t,u,y,z,?_⟩;have e:o= .cells (m++P++a0).toArray T (0,0):=by
  have:c.heap[f]?= _:=w;rw[x]at this;exact Option.some.inj this
 exact uu (by rw[p,e]) D (ZQ n E) C q.1 q.2
theorem St.lendSlice{v:Zb}{j:Act}{A:ee r}(s:St d h g a b v j c){i e sz:Nat}{T:TypeId}{l:List r}{ℓ':List dY}(C:b[i]?= some (.own (some e) T sz N Q m))(I:ℓ'=b.eraseIdx i)(G:sz=A.n)(F:A.rels v m l)(D:N=l.length):
  ∃ f o,v.le f∧f e=some o∧St d h g a ℓ' f j c∧(dY.own (some e) T sz N Q m).fits o∧v e=none∧(h.wd.heap.size≤e∨e ∈ h.lent)∧(Zy A).rel f [.slice (eF (some e)) N Q] l:=by
 subst G;obtain⟨f,o,k,n,t,u,w,x,y,z⟩:=s.lendOwn C rfl I;refine⟨f,o,k,n,t,u,y,z,?_⟩;obtain⟨J,q,p,E,B,K,H⟩:=w;rw[x]at p
 cases p
 subst D;refine⟨_,Q,rfl,E,B,.inr ⟨e,0,q,T,(0,0),rfl,n,?_⟩⟩;rw[List.drop_zero,H];exact ZQ k F
theorem Vd{j:Act}{i:Nat}(z:St d h g a b l j c)(K:Region.wanted w (yielded k j.tmps)=true)(F:w.dst=some n)(y:n<d)(J:(execOp j.eval w).run e c= .ok (.enter L C) c)(H:b[i]?= some W)(B:W.blk=some A)(E:oY e L C c l [A] δ)(v:∀x m j c,l.le m→δ x m c→(∀o:dY,o.blk=some A→o.holds c→m A=none→St d h g ((n,x) :: a) (b.set i o) m j c)→wpList e k f p j c):wpList e k f (w :: p) j c :=
 md K (o5 J (Calls.mono E λM N ⟨r,m,s,t,q,u⟩=>⟨r,s,by
  rw[F]
  exact v r m _ _ q.le u λo D G I=>(z.afterL H B D t q G I).put r y⟩))
theorem Xq{z:Act}(F:St d h g a b l z c){i sz lo hi:Nat}{T:TypeId}(L:b[i]?= some (.own (some A) T sz N Q m))(D:lo≤hi)(E:hi≤N):
  ∃ s y,c.heap[A]?= some (.cells (s++((m.take (hi*sz)).drop (lo*sz))++y).toArray T (0,0))∧l A=none∧lo*sz=s.length∧hi-lo≤Q-lo∧Q-lo≤maxLen∧
   ∀ (t:World) (j:List Value),j.length=(hi-lo)*sz→t.heap[A]?= some (.cells (s++j++y).toArray T (0,0))→(dY.own (some A) T sz N Q (m.take (lo*sz)++j++m.drop (hi*sz))).holds t:=by
 obtain⟨⟨G,f,J,v,I,H,P⟩,R⟩:=F.loc _ (mG L);have w:lo*sz≤hi*sz:=mR _ D;have x:hi*sz≤N*sz:=mR _ E;have Y:N*sz≤Q*sz:=mR _ v;have M:f.toList.length=Q*sz:=by simpa using H
 have u:m=f.toList.take (N*sz):=P.symm;have B:(m.take (hi*sz)).drop (lo*sz)=(f.toList.take (hi*sz)).drop (lo*sz):=by rw[u,List.take_take,Nat.min_eq_left x]
 have C:f.toList.take (lo*sz)++(m.take (hi*sz)).drop (lo*sz)++f.toList.drop (hi*sz)=f.toList:=by
  rw[B];have:(f.toList.take (hi*sz)).take (lo*sz)=f.toList.take (lo*sz):=by rw[List.take_take,Nat.min_eq_left w]
  rw[←this,List.take_append_drop,List.take_append_drop]
 refine⟨f.toList.take (lo*sz),f.toList.drop (hi*sz),by rw[C];simpa using J,(R A rfl).2,by simp;omega,by omega,by omega,λt j o K=>?_⟩;have O:(hi-lo)*sz=hi*sz-lo*sz:=Nat.sub_mul _ _ _;rw[O]at o;have a0:m.length=N*sz:=G;have X:∀p q r k:Nat,p≤q→q≤r→r≤k→j.length=q-p→f.toList.length=k→m=f.toList.take r→
   (m.take p++j++m.drop q).length=r∧(f.toList.take p++j++f.toList.drop q).length=k∧(f.toList.take p++j++f.toList.drop q).take r=m.take p++j++m.drop q:=by
  intro p q r k hp hq hr o Z e;have n:(f.toList.take p).length=p:=by rw[List.length_take,Nat.min_eq_left (by omega)]
  refine⟨?_,?_,?_⟩
  ·rw[e,List.take_take,Nat.min_eq_left (by omega),lA,lA,n,List.length_drop,List.length_take,Nat.min_eq_left (by omega)];omega
  ·rw[lA,lA,n,List.length_drop];omega
  ·rw[e,List.take_take,Nat.min_eq_left (by omega),List.take_append,List.take_of_length_le (by rw[lA,n];omega),List.drop_take,lA,n];congr 2;omega
 obtain⟨S,U,W⟩:=X _ _ _ _ w x Y o M u;exact⟨S,_,K,v,I,by simpa using U,by rw[List.toList_toArray];exact W⟩
theorem X3{sz bytes:Nat}(E:eZ e j B sz bytes q)(h:A≤N)(w:World):
  (Builtin.append_ #[j,j] ζ #[.slice U A N,.slice none 0 Q]).run e w= .ok (.slice U A N) w:=by
 obtain⟨d,a,c,hs,b⟩:=info_parts E.info
 cases U <;> simp[Builtin.append_,run_underlying E.ty,sizeOf,typeInfo,a,Builtin.lenOf,Builtin.firstCells,h,storeCells]
theorem vZ{x:Act}{A:ee r}{ty:TypeId}{bytes:Nat}(E:eZ e j B A.n bytes q)(p:St d h g a b l x c){i:Nat}(t:b[i]?= some (.own s B A.n N Q m))(hr:(Zy A).rel l [.slice U κ a3] D){n':Nat}(C:n'=N+κ)(K:n'*bytes≤140737488355328)(O:0<bytes):
  ∃ f k I o,(Builtin.append_ #[j,j] ty #[.slice (eF s) N Q,.slice U κ a3]).run e c= .ok (.slice (eF f) n' k) o∧St d h g a (b.set i (.own f B A.n n' k (m++I))) l x o∧A.rels l I D:=by
 obtain⟨q',c',W,h1,h2,J⟩:=hr
 cases W
 have a2:N≤Q:=by
  have:=(p.loc _ (mG t)).1
  cases s with
  |none=>obtain⟨n,_⟩:=this;omega
  |some s=>obtain⟨_,_,_,n,_⟩:=this;exact n
 cases U with
 |none=>
  have Z:D=[]:=by
   rcases J with n |⟨_,_,_,_,_,B,_⟩
   ·exact n
   ·cases B
  subst Z;have a1:n'=N:=by simpa using C
  rw[a1];have a4:b.set i (.own s B A.n N Q m)=b:=by
   apply List.ext_getElem?;intro P;by_cases v:i=P
   ·subst v;have a0:i<b.length:=(List.getElem?_eq_some_iff.1 t).1;rw[List.getElem?_set_self a0,t]
   ·rw[List.getElem?_set_ne v]
  refine⟨s,Q,[],c,X3 E a2 c,?_,rfl⟩;rw[List.append_nil];show St d h g a (b.set i (.own s B A.n N Q m)) l x c;rw[a4];exact p
 |some R=>
  by_cases L:D=[]
  ·subst L;obtain⟨f,k,o,F,z⟩:=F9 (ty:=ty) E p t (ad:=R) (m:=0) (c:=a3) (news:=[]) (by simp) (by simp) rfl (n':=n') (by simpa using C) K O;exact⟨f,k,[],o,F,z,rfl⟩
  ·rcases J with n |⟨H,w,y,T,X,S,Y,G⟩
   ·exact absurd n L
   ·cases S
    have M:=kK G;obtain⟨f,k,o,F,z⟩:=F9 (ty:=ty) E p t (ad:=⟨H,w,none⟩) (m:=D.length) (c:=a3) (news:=(y.toList.drop w).take (D.length*A.n)) M
     (λP u v=>by
      have hw:gM c H w ((y.toList.drop w).take (D.length*A.n)):=⟨y,T,X,p.vin _ _ Y,by rw[M]⟩;rw[gG];exact hw.cell v) (xD G) C K O
    exact⟨f,k,_,o,F,z,G⟩
theorem Ye(f:St d h g a b l i c){j sz:Nat}{T:TypeId}(E:b[j]?= some (.own (some Q) T sz A N m))(n:jf e B ζ sz)(I:0≤y)(J:y<K)(L:K≤A){G:TypeId}{lo k:Operand}(w:ev a x=some (.slice (eF (some Q)) A N))(r:ev a lo=some (.int u y))(q:ev a k=some (.int a2 K)):
  (execOp i.eval ⟨s,.slice B x (some lo) (some k) none,G,v,t,o⟩).run e c= .ok (.value (.slice (some ⟨Q,y.toNat*sz,none⟩) (K-y).toNat (N-y.toNat))) c:=by
 obtain⟨_,H,_,M,_⟩:=(f.loc _ (mG E)).1;have p:(K-y).toNat=K.toNat-y.toNat:=by omega
 have z:0≤K∧K≤N:=by omega
 have C:0≤y∧y≤(K.toNat:Int):=by omega
 have D:y≤max K 0:=by omega
 have F:¬N=y.toNat:=by omega
 rw[p];simp[execOp,Instr.sliceAt,Instr.slice,Instr.sliceBounds,Instr.sliceBound,asIntOf,f.eval w,f.eval r,f.eval q,n.1,n.2,z,C,D,F,eF,gG]
def nP{b:Type}(l:List b)(lo a:Int):Option (List b):=if 0≤lo∧lo<a∧a≤l.length then some ((l.take a.toNat).drop lo.toNat) else none
theorem lq{lo:Int}(h:nP D lo K=some φ):0≤lo∧lo<K∧K≤D.length∧φ=(D.take K.toNat).drop lo.toNat∧(K-lo).toNat=φ.length∧lo.toNat≤K.toNat∧K.toNat≤D.length:=by
 unfold nP at h;split at h
 ·rename_i a
  cases h
  refine⟨a.1,a.2.1,a.2.2,rfl,?_,by omega,by omega⟩;rw[List.length_drop,List.length_take,Nat.min_eq_left (by omega)];omega
 ·cases h
theorem YX{sz:Nat}(h:E.rels g m D)(a:sz=E.n)(e:φ=(D.take n).drop d):E.rels g ((m.take (n*sz)).drop (d*sz)) φ:=by
 subst a;subst e;exact qu d (wj n h)
theorem Wy{a:Type}{A:ee a}{l y:List a}{p r sz:Nat}(h:A.rels g m l)(b:A.rels g P y)(c:sz=A.n):A.rels g (m.take (p*sz)++P++m.drop (r*sz)) (l.take p++y++l.drop r):=by
 subst c;exact ku (ku (wj p h) b) (qu r h)
theorem WL(a:A=D.length)(hp:d≤n)(b:n≤D.length)(c:n-d=φ.length):A=(D.take d++φ++D.drop n).length:=by
 simp;omega
theorem YP(a:0≤y)(b:y<K)(c:K.toNat-y.toNat≤d-y.toNat):(K-y).toNat≤d-y.toNat:=by omega
theorem St.boxOwn{T:TypeId}(f:St d h g a (.box n T m :: b) l i c)(sz j:Nat)(e:m.length=j*sz)(q:j≤maxLen):St d h g a (.own (some n) T sz j j m :: b) l i c:=by
 refine⟨f.size,f.dfr,f.fr,f.ext,f.vst,λx k=>?_,f.nd⟩;rcases List.mem_cons.1 k with rfl |k
 ·obtain⟨o,p⟩:=f.loc _ (List.mem_cons_self ..);exact⟨⟨e,m.toArray,o,Nat.le_refl _,q,by simpa using e,by simp[←e]⟩,p⟩
 ·exact f.loc x (List.mem_cons_of_mem _ k)
def Do(P:Program)(t:TypeId)(n sz:Nat):Prop:=∃e,(∀w,(underlying t).run P w= .ok (.array n e) w)∧∀w,(sizeOf e).run P w= .ok sz w
theorem SX(f:St d h g a b l i c){sz:Nat}(z:Do e B n sz)(k:ev a x=some (.pointer (some ⟨N,Q,none⟩)))(m:ev a ε=some (.int u y))(p:0≤y)(q:y<n):
  (execOp i.eval ⟨s,.indexAddr B x ε,j,v,t,o⟩).run e c= .ok (.value (.pointer (some ⟨N,Q+y.toNat*sz,none⟩))) c:=by
 obtain⟨A,r,w⟩:=z;simp[execOp,Instr.indexAt,Instr.sureAddr,f.eval k,f.eval m,asIntOf,r,w,p,q,gG]
def H3(b n lo:Nat):Value:=.slice (some (if n=lo then⟨b,0,none⟩ else⟨b,0+lo*1,none⟩)) (n-lo) (n-lo)
theorem Wl(f:St d h g a b l i c){lo:Operand}(z:Do e B n 1)(k:ev a x=some (.pointer (some ⟨A,0,none⟩)))(m:ev a lo=some (.int u y))(p:0≤y)(q:y≤n):
  (execOp i.eval ⟨s,.slice B x (some lo) none none,j,v,t,o⟩).run e c= .ok (.value (H3 A n y.toNat)) c:=by
 obtain⟨C,r,w⟩:=z;simp[execOp,Instr.sliceAt,Instr.sureAddr,f.eval k,f.eval m,r,w,p,q,gG,Instr.sliceBounds,run_sliceBound,H3]
def oQ(l:List Int):List UInt8:=l.map λn=>UInt8.ofNat n.toNat
theorem Od:∀{a:List Value} {l:List Int},ee.rels (Zd u) g a l→a=l.map (Value.int u)
 |_,[],h=>h
 |_,x :: l,h=>by
  obtain⟨d,e,rfl,⟨b,_⟩,c⟩:=h
  rw[Od c,b];rfl
theorem YH{J:TypeId}(r:St d h g a b l i c){n T:TypeId}{j lo:Nat}(E:b[j]?= some (.own (some A) T 1 N N m))(G:ee.rels (Zd .u8) l m H)(F:N=H.length)(L:lo≤N)(I:ev a x=some (H3 A N lo))(hs:e.underlying B=some (.slice n))(D:e.underlying n=some (.int .u8))(C:e.underlying ζ=some .string):
  (execOp i.eval ⟨s,.convert B ζ x,J,v,t,o⟩).run e c= .ok (.value (.string (Zt (oQ (H.drop lo))))) c:=by
 have z:=Od G;have y:∀q:Nat,(q=0+lo*1∨N=lo)→(convert B ζ (.slice (some ⟨A,q,none⟩) (N-lo) (N-lo))).run e c= .ok (.string (Zt (oQ (H.drop lo)))) c:=by
  intro q w;have:=run_convert_bytes_arg (P:=e) c B n hs D A q (N-lo) (N-lo) (H.drop lo) (by simp[F]) (λk K=>by
   rcases w with rfl |w
   ·have u:lo+k<H.length:=by omega
    have f:=wk r E (lo+k) (.int .u8 H[lo+k]) (by rw[z];simp[u]);rw[gG]at f;rw[show 0+lo*1+k=0+(lo+k) by omega,f];simp[List.getD,List.getElem?_drop,u]
   ·omega) ζ C
  exact this
 simp only[execOp,r.eval I,H3];by_cases p:N=lo
 ·rw[iP p];have f:=y 0 (.inr p);simp[f]
 ·rw[iN p];have f:=y _ (.inl rfl);simp only[Sem.run_bind,f];rfl
theorem ZnE(l:List Int):(oQ l).length=l.length:=by simp[oQ]
def z8{α:Type}(A:ee α):ee α where
 n:=1
 agg:=false
 rel v cs x:=∃b o c,cs=[.pointer (some ⟨b,o,none⟩)]∧At v b o c∧A.rel v c x
 len h:=by obtain⟨_,_,_,rfl,_⟩:=h;rfl
 mono hv h:=by obtain⟨b,o,c,e,h1,h2⟩:=h;exact⟨b,o,c,e,h1.mono hv,A.mono hv h2⟩
 flat h:=by obtain⟨_,_,_,rfl,_⟩:=h;rfl
theorem tM(h:At g d n m)(k:E.rel g m O):(z8 E).rel g [.pointer (some ⟨d,n,none⟩)] O:=⟨d,n,m,rfl,h,k⟩
theorem St.pubVar{f:Act}(j:St d h g a b l f c){i:Nat}{T:TypeId}(p:b[i]?= some (.box A T m))(q:β=b.eraseIdx i):∃e,l.le e∧St d h g a β e f c∧At e A 0 m:=by
 obtain⟨e,k,n,o⟩:=j.pubBox p q;exact⟨e,k,n,yz o 0 m (by simp)⟩
theorem X0{K:Nat}{p:Zb}{d:Option Nat}{ty:TypeId}{pos:String}{aft:Array Edge}{g:Option (Nat×Bool)}(n:St K h p a b l i c){ats:Array TypeId}(j f:List Value)(o:ZT e L)(k:ev a x=some (.func (.func L) #[] f.toArray))(m:X.toList.map (ev a)=j.map some):(execOp i.eval ⟨d,.call ⟨.value x,X,ats⟩,ty,pos,aft,g⟩).run e c= .ok (.enter L (j++f).toArray) c:=by
 have:=PG (d:=d) (ty:=ty) (pos:=pos) (aft:=aft) (g:=g) (ats:=ats) n o k m
 simpa using this
theorem ZyD(r:St d h g a b l i c){sz:Nat}(z:Do e B n sz)(f:ev a x=some (.pointer (some ⟨N,Q,none⟩)))(k:ev a ε=some (.int u y))(m:0≤y)(p:y<n)(q:Nat)(w:Q+y.toNat*sz=q):
  (execOp i.eval ⟨s,.indexAddr B x ε,j,v,t,o⟩).run e c= .ok (.value (.pointer (some ⟨N,q,none⟩))) c:=by
 rw[SX r z f k m p,w]
theorem zl(h:Nat.ble d n=true:=by rfl):d≤n:=lB h
theorem wn(h:w.guard=none:=by rfl):Region.wanted w ω=true:=jS h
theorem Sk:∀{b:List (Nat×Value)},look b d=some q→(d,q) ∈ b
 |[],h=>by cases h
 |(k,y) :: r,h=>by
  by_cases a:k=d
  ·subst a;rw[v7 rfl]at h;cases h;exact List.mem_cons_self ..
  ·rw[Cj a]at h;exact List.mem_cons_of_mem _ (Sk h)
theorem St.fr'{σ':List (Nat×Value)}(j:St d h g a b l i c)(k:σ'.map (λp=>look a p.1)=σ'.map (λp=>some p.2)):St d h g σ' b l i c :=
 j.frame λt x e=>by
  have n:=Sk e
  have:∀f:List (Nat×Value),f.map (λp=>look a p.1)=f.map (λp=>some p.2)→(t,x) ∈ f→look a t=some x:=by
   intro f
   induction f with
   |nil=>intro _ j;cases j
   |cons p f o=>
    intro m hp;simp only[List.map_cons,List.cons.injEq]at m;rcases List.mem_cons.1 hp with rfl |hp
    ·exact m.1
    ·exact o m.2 hp
  exact this σ' k n
theorem ov{j:List (Nat×Value)}{a:Act}(o:St d h g j b l a c)(i:(w.dst,w.guard,Nat.ble (n+1) d)=(some n,none,true))(r:(execOp a.eval w).run e c= .ok (.value q) c)(m:∀a,St d h g ((n,q) :: j) b l a c→wpList e k f p a c):wpList e k f (w :: p) a c :=
 vY o (jS (Prod.mk.inj (Prod.mk.inj i).2).1) (Prod.mk.inj i).1 (lB (Prod.mk.inj (Prod.mk.inj i).2).2) r m
theorem mv{i:List (Nat×Value)}{a:Act}(m:St d h g i b l a c)(o:(ev i x,Nat.ble (n+1) d)=(some q,true))(r:∀a,St d h g ((n,q) :: i) b l a c→wpList e k f p a c):wpList e k f (⟨some n,.move x,j,v,t,none⟩ :: p) a c :=
 vY m (jS rfl) rfl (lB (Prod.mk.inj o).2) (ZG m (Prod.mk.inj o).1) r
theorem mw{i:List (Nat×Value)}{a:Act}(m:St d h g i b l a c)(o:(ev i x,Nat.ble (n+1) d)=(some q,true))(r:∀a,St d h g ((n,q) :: i) b l a c→wpList e k f p a c):wpList e k f (⟨some n,.assign x,j,v,t,none⟩ :: p) a c :=
 vY m (jS rfl) rfl (lB (Prod.mk.inj o).2) (mg m (Prod.mk.inj o).1) r
theorem ob{T:Nat}{x:Operand}(r:St d h g a b l i c)(s:(ev a x,Nat.ble (n+1) d)=(some q,true))(w:q.cells=m.toArray)(u:∀o i c,St d h g ((n,.pointer (some ⟨o,0,none⟩)) :: a) (.box o T m :: b) l i c→wpList e k f p i c):wpList e k f (⟨some n,.box T x,j,v,t,none⟩ :: p) i c :=
 Q8 r (jS rfl) rfl (lB (Prod.mk.inj s).2) (by rw[←w];exact Ss r (Prod.mk.inj s).1) u
theorem sr(h:wpList e k (Exit.then (μ.wp e f) f) k.toList i c):(Code.seq (.region d k false) μ).wp e f i c:=wp_seq (wp_region_lit h)
theorem oe(h:μ.wp e f i c):wpList e k (Exit.then (μ.wp e f) f) [] i c:=ZS (Zp h)
theorem rf{o:List (Nat×Value)}{a:Act}(v:k=p.toArray)(s:kY k z)(i:Nat)(u:p[i]?= some w)(m:(z.getD i false&&(Region.ready .any p.toArray J).contains i)=true)(j:(w.dst,w.guard,Nat.ble (n+1) d)=(some n,none,true))(t:St d h g o b l a c)(x:(execOp a.eval w).run e c= .ok (.value q) c)(r:∀a,St d h g ((n,q) :: o) b l a c→Rg e k f z (J.setIfInBounds i true) a c):Rg e k f z J a c :=
 YV v s i u ⟨(Bool.and_eq_true_iff.1 m).1,(Bool.and_eq_true_iff.1 m).2,rfl⟩ (Prod.mk.inj j).1 (lB (Prod.mk.inj (Prod.mk.inj j).2).2) t (jS (Prod.mk.inj (Prod.mk.inj j).2).1) x r
def qT(l:List Oper)(a E:Array Bool)(p:Nat)(A J:List Nat):Bool :=
 vz l.toArray p [] A&&((List.range l.length).all λj=>!(E.getD j false&&a.getD j false) ||A.contains j ||J.contains j)
theorem Gk{a:List Nat}(h:qT p z J d Λ a=true):td p z J (J.setIfInBounds d true) d Λ a=true:=by
 unfold td;unfold qT at h;rw[h];simp
theorem nv{o:List (Nat×Value)}{a:Act}(m i:List Nat)(v:k=p.toArray)(u:p[n]?= some w)(s:qT p z J n m i=true)(j:(w.dst,w.guard,Nat.ble (A+1) d)=(some A,none,true))(t:St d h g o b l a c)(x:(execOp a.eval w).run e c= .ok (.value q) c)(r:∀a,St d h g ((A,q) :: o) b l a c→jE e k p a c i∧Rg e k f z (J.setIfInBounds n true) a c):Next e k f z J a c n :=
 NC m i v u (Gk s) t (jS (Prod.mk.inj (Prod.mk.inj j).2).1) (Prod.mk.inj j).1 (lB (Prod.mk.inj (Prod.mk.inj j).2).2) x r
theorem py(j:St d h g a b l i c)(m:p[n]?= some w)(f:(w.dst,look a A,w.guard)=(some A,some q,none))(o:(execOp i.eval w).run e c= .ok (.value q) c)(r:jE e k p i c Λ):jE e k p i c (n :: Λ):=VM j m (Prod.mk.inj f).1 (Prod.mk.inj (Prod.mk.inj f).2).1 (jS (Prod.mk.inj (Prod.mk.inj f).2).2) o r
theorem ZrA(o j:List Nat)(B:k=p.toArray)(y:p[n]?= some w)(s:qT p z J n o j=true)(t:St d h g a b l i c)(E:Region.wanted w (yielded k i.tmps)=true)(v:w.dst=some A)(r:A<d)(D:(execOp i.eval w).run e c= .ok (.enter L C) c)(u:fM e L C c l M)(q:∀x m i c,l.le m→M x m→St d h g ((A,x) :: a) b m i c→jE e k p i c j∧Rg e k f z (J.setIfInBounds n true) i c):Next e k f z J i c n:=s4 o j B y (Gk s) t E v r D u q
theorem Dr{m:List (Nat×Value)}{a:Act}(j i:List Nat)(x:k=p.toArray)(v:p[n]?= some w)(s:qT p z J n j i=true)(B:Region.wanted w (yielded k a.tmps)=true)(u:w.dst=some A)(r:A<d)(y:(execOp a.eval w).run e c= .ok (.value q) F)(t:St d h g m b l a F)(o:∀a,St d h g ((A,q) :: m) b l a F→jE e k p a F i∧Rg e k f z (J.setIfInBounds n true) a F):Next e k f z J a c n:=EP j i x v (Gk s) B u r y t o
theorem Vz(A a:List Nat)(l:k=p.toArray)(j:p[d]?= some w)(b:qT p z J d A a=true)(n:Region.wanted w (yielded k i.tmps)=true)(g:w.dst=none)(m:(execOp i.eval w).run e c= .ok .skip F)(h:jE e k p i F a∧Rg e k f z (J.setIfInBounds d true) i F):Next e k f z J i c d:=s7 A a l j (Gk b) n g m h
theorem fm(v:k=p.toArray)(r:kY k z)(j:Nat)(u:p[j]?= some w)(o:(w.dst,w.guard,Nat.ble (n+1) d)=(some n,none,true))(s:St d h g a b l i c)(x:(execOp i.eval w).run e c= .ok (.value q) c)(m:∀i,St d h g ((n,q) :: a) b l i c→Rg e k f z (J.setIfInBounds j true) i c)(t:(z.getD j false&&(Region.ready .any p.toArray J).contains j)=true:=by kernel_rfl):Rg e k f z J i c:=rf v r j u t o s x m
theorem Cn(d:k=p.toArray)(b:kY k z)(a:Nat)(h:Next e k f z J i c a)(g:Region.ready .any p.toArray J=[a]:=by kernel_rfl):Rg e k f z J i c:=ls d b a g h
theorem yY(b:k=p.toArray)(a:kY k z)(h:f .normal i c)(d:Region.ready .any p.toArray J=[]:=by kernel_rfl):Rg e k f z J i c:=AW b a d h
theorem IH(m j:List Nat)(v:k=p.toArray)(u:p[n]?= some w)(r:(w.dst,w.guard,Nat.ble (A+1) d)=(some A,none,true))(t:St d h g a b l i c)(x:(execOp i.eval w).run e c= .ok (.value q) c)(o:∀i,St d h g ((A,q) :: a) b l i c→jE e k p i c j∧Rg e k f z (J.setIfInBounds n true) i c)(s:qT p z J n m j=true:=by kernel_rfl):Next e k f z J i c n:=nv m j v u s r t x o
theorem nxc(o j:List Nat)(B:k=p.toArray)(y:p[n]?= some w)(t:St d h g a b l i c)(v:w.dst=some A)(D:(execOp i.eval w).run e c= .ok (.enter L C) c)(u:fM e L C c l M)(q:∀x m i c,l.le m→M x m→St d h g ((A,x) :: a) b m i c→jE e k p i c j∧Rg e k f z (J.setIfInBounds n true) i c)(s:qT p z J n o j=true:=by kernel_rfl)(E:w.guard=none:=by rfl)(r:Nat.ble (A+1) d=true:=by rfl):Next e k f z J i c n:=ZrA o j B y s t (jS E) v (lB r) D u q
theorem nxs(A a:List Nat)(l:k=p.toArray)(j:p[d]?= some w)(g:w.dst=none)(m:(execOp i.eval w).run e c= .ok .skip F)(h:jE e k p i F a∧Rg e k f z (J.setIfInBounds d true) i F)(b:qT p z J d A a=true:=by kernel_rfl)(n:w.guard=none:=by rfl):Next e k f z J i c d:=Vz A a l j b (jS n) g m h
theorem ji(q:St d h g a b l i c)(s:w.dst=some n)(t:(execOp i.eval w).run e c= .ok (.enter L C) c)(r:fM e L C c l M)(m:∀x j i c,l.le j→M x j→St d h g ((n,x) :: a) b j i c→wpList e k f p i c)(u:w.guard=none:=by rfl)(o:Nat.ble (n+1) d=true:=by rfl):wpList e k f (w :: p) i c:=Li q (jS u) s (lB o) t r m
theorem mL(j:St d h g a b l i c)(s:w.guard=some (A,G))(t:(k[A]?).bind (·.dst)=some N)(u:look a N=some (.bool !G))(r:w.dst=some n)(m:∀i,St d h g ((n,undef) :: a) b l i c→wpList e k f p i c)(o:Nat.ble (N+1) d=true:=by rfl)(q:Nat.ble (n+1) d=true:=by rfl):wpList e k f (w :: p) i c:=vd j (Er j s t u (lB o)) r (lB q) m
theorem lS(j:St d h g a b l i c)(t:w.guard=some (A,G))(u:(k[A]?).bind (·.dst)=some N)(x:look a N=some (.bool G))(s:w.dst=some n)(v:(execOp i.eval w).run e c= .ok (.value q) c)(m:∀i,St d h g ((n,q) :: a) b l i c→wpList e k f p i c)(o:Nat.ble (N+1) d=true:=by rfl)(r:Nat.ble (n+1) d=true:=by rfl):wpList e k f (w :: p) i c:=vY j (pV j t u x (lB o)) s (lB r) v m
theorem la(f:St d h g a b l i c){T:TypeId}(p:ev a x=some (.pointer (some ⟨A,N,none⟩)))(r:eS e B n true)(u:Nat)(k:b[u]?= some (.box A T P))(hs:(P.drop N).take m.length=m)(q:m.length=n):(execOp i.eval ⟨s,.load B x,j,v,t,o⟩).run e c= .ok (.value (.agg m.toArray)) c :=
 PF f p r q (f.box k N m hs)
theorem lo(f:St d h g a b l i c){T:TypeId}(p:ev a x=some (.pointer (some ⟨A,N,none⟩)))(r:eS e B n false)(u:Nat)(k:b[u]?= some (.box A T m))(hs:(m.drop N).take 1=[q]):(execOp i.eval ⟨s,.load B x,j,v,t,o⟩).run e c= .ok (.value q) c :=
 jb f p r (f.box k N [q] hs)
structure HD where
 d:Nat
 T:TypeId
 cs:List Value
theorem St.sub(f:St d h g a (b++β) l i c):St d h g a β l i c :=
 ⟨f.size,f.dfr,f.fr,f.ext,f.vst,λe j=>f.loc e (List.mem_append_right _ j),by have:=f.nd;rw[List.filterMap_append]at this;exact(List.nodup_append.1 this).2.1⟩
def hs(g:Nat→HD)(X:List Nat)(a:Nat→Nat):List dY:=X.map λi=>.box (a i) (g i).T (g i).cs
def hp(g:Nat→HD)(X:List Nat)(a:Nat→Nat):List (Nat×Value):=X.map λi=>((g i).d,.pointer (some ⟨a i,0,none⟩))
def Zc(B:Nat)(n:Nat):List Int:=if h:n=0∨B<2 then[] else((n%B:Nat):Int) :: Zc B (n / B)
termination_by n
decreasing_by exact Nat.div_lt_self (by omega) (by omega)
def rW:ee (List Int):=Zy (Zd .u64)
def NG:ee (List Int):=Zy (Zd .u32)
def Zx:ee Nat:=rW.via (Zc 18446744073709551616)
def iF:ee Nat:=NG.via (Zc 4294967296)
def jV:ee Int:=(Zj ny Zx).via λi=>(decide (i<0),i.natAbs)
def ZJ(d:Nat):Nat:=if d=1 then 0 else d
def Z9:ee Rat:=(Zj jV Zx).via λq=>(q.num,ZJ q.den)
def rQ:ee Rat:=(Zj ny (Zj iF iF)).via λq=>(decide (q.num<0),q.num.natAbs,q.den)
theorem vV{A:ee r}(h:(Zy A).rel g m D):∃q n k,m=[.slice q n k]:=by
 obtain⟨q,a,e,_⟩:=h;exact⟨q,_,a,e⟩
theorem ig(h:Zx.rel g m d):∃q d k,m=[.slice q d k]:=vV (A:=Zd .u64) h
theorem oV(h:iF.rel g m d):∃q d k,m=[.slice q d k]:=vV (A:=Zd .u32) h
theorem Fe(h:jV.rel g m y):∃s q n k,m=[.bool s,.slice q n k]:=by
 obtain⟨a,d,rfl,b,c⟩:=h;obtain⟨q,n,k,rfl⟩:=ig c;exact⟨_,q,n,k,by rw[show a=_ from b];rfl⟩
theorem Y3(h:Z9.rel g m ψ):∃s ψ n k c b a,m=[.bool s,.slice ψ n k,.slice c b a]:=by
 obtain⟨f,i,rfl,d,e⟩:=h;obtain⟨s,ψ,n,k,rfl⟩:=Fe d;obtain⟨c,b,a,rfl⟩:=ig e;exact⟨s,ψ,n,k,c,b,a,rfl⟩
theorem ZjE(h:rQ.rel g m ψ):∃s ψ n k c b a,m=[.bool s,.slice ψ n k,.slice c b a]:=by
 obtain⟨d,l,rfl,e,j,o,rfl,f,i⟩:=h;obtain⟨ψ,n,k,rfl⟩:=oV f;obtain⟨c,b,a,rfl⟩:=oV i;exact⟨_,ψ,n,k,c,b,a,by rw[show d=_ from e];rfl⟩
theorem fH(B:Nat):Zc B 0=[]:=by unfold Zc;simp
theorem BR(v:Zb):Zx.rel v [.slice none 0 0] 0:=by
 show(Zy (Zd .u64)).rel v _ (Zc _ 0);rw[fH];exact Db _ v
theorem GZ(v:Zb):iF.rel v [.slice none 0 0] 0:=by
 show(Zy (Zd .u32)).rel v _ (Zc _ 0);rw[fH];exact Db _ v
theorem BN(v:Zb):jV.rel v [.bool false,.slice none 0 0] 0:=⟨[.bool false],[.slice none 0 0],rfl,rfl,BR v⟩
theorem ZqB(v:Zb):Z9.rel v [.bool false,.slice none 0 0,.slice none 0 0] 0:=⟨[.bool false,.slice none 0 0],[.slice none 0 0],rfl,BN v,BR v⟩
theorem FG{body:r→Option (r ⊕ θ)}(I:r→Prop)(d:r→Nat)(Q:θ→Prop)(h:∀s,I s→(∃b,body s=some (.inl b)∧I b∧d b<d s)∨ ∃a,body s=some (.inr a)∧Q a):
  ∀ (n:Nat) (s:r),I s→d s<n→∃a,Zg body n s=some a∧Q a:=by
 intro n
 induction n with
 |zero=>intro s _ h;omega
 |succ n i=>
  intro s hs k;rcases h s hs with⟨b,e,c,j⟩ |⟨a,e,c⟩
  ·obtain⟨a,f,g⟩:=i b c (by omega);exact⟨a,by simp only[Zg,e,dU];exact f,g⟩
  ·exact⟨a,by simp only[Zg,e,dU],c⟩
theorem GL{a:Type}{c:a→Option (a ⊕ θ)}(I:a→Prop)(b:a→Nat){r:θ}{s:a}(hs:I s)(g:b s<d)(h:∀s,I s→(∃f,c s=some (.inl f)∧I f∧b f<b s)∨c s=some (.inr r)):Zg c d s=some r:=by
 obtain⟨i,e,rfl⟩:=FG I b (·= r) (λs hs=>(h s hs).imp_right λe=>⟨r,e,rfl⟩) d s hs g;exact e
theorem gg{i:Type}{f:θ→Option i}{z:i}(b:r→Prop)(c:r→Nat)(Q:θ→Prop)(hs:b O)(k:c O<d)(h:∀O,b O→(∃g,I O=some (.inl g)∧b g∧c g<c O)∨ ∃a,I O=some (.inr a)∧Q a)(j:∀a,Q a→f a=some z):dU (Zg I d O) f=some z:=by
 obtain⟨a,e,l⟩:=FG b c Q h d O hs k;rw[e];exact j a l
theorem Z6{b:Type}(x:Option r)(f:r→Option θ)(g:θ→Option b):dU (dU x f) g=dU x (λa=>dU (f a) g):=by cases x <;> rfl
theorem ZR(h:d<2^65):d<Zh:=Nat.lt_of_lt_of_le h (by unfold Zh;exact Nat.pow_le_pow_right (by omega) (by omega))
theorem Zk(h:-9223372036854775808≤y)(a:y≤9223372036854775807):chk .i64 y=some y:=KA (gT.2 ⟨h,a⟩)
theorem Zz(h:d<D.length):dX D (d:Int)=some D[d]:=by simp[dX,h]
theorem Za(x:r)(f:r→Option θ):dU (some x) f=f x:=(rfl:dU (some x) f=f x).trans rfl
theorem Ze(x y:Option r):dV true x y=x:=(rfl:dV true x y=x).trans rfl
theorem Zf(x y:Option r):dV false x y=y:=(rfl:dV false x y=y).trans rfl
def val(B:Nat):List Int→Nat
 |[]=>0
 |x :: l=>x.toNat+B*val B l
def eG(B:Nat)(l:List Int):Prop:=∀x ∈ l,0≤x∧x<B
theorem eG.nil:eG d []:=λ_ h=>by cases h
theorem eG.cons{x:Int}:eG d (x :: H)↔(0≤x∧x<d)∧eG d H:=by simp[eG]
theorem eG.append{b:List Int}:eG d (H++b)↔eG d H∧eG d b:=by
 simp only[eG,List.mem_append];exact⟨λh=>⟨λx a=>h x (.inl a),λx a=>h x (.inr a)⟩,λh x a=>a.elim (h.1 x) (h.2 x)⟩
theorem eG.take(h:eG d H)(n:Nat):eG d (H.take n):=λx a=>h x (List.mem_of_mem_take a)
theorem eG.drop(h:eG d H)(n:Nat):eG d (H.drop n):=λx a=>h x (List.mem_of_mem_drop a)
theorem eG.get(h:eG d H){i:Nat}(a:i<H.length):0≤H[i]∧H[i]<d:=h _ (List.getElem_mem a)
theorem eG.set(h:eG d H)(i:Nat)(b:0≤y∧y<d):eG d (H.set i y):=λc a=>by
 rcases List.mem_or_eq_of_mem_set a with a |rfl
 ·exact h c a
 ·exact b
theorem eG.replicate(n:Nat)(a:0≤y∧y<d):eG d (List.replicate n y):=λc b=>by rw[(List.mem_replicate.1 b).2];exact a
theorem mF(B:Nat)(l a:List Int):val B (l++a)=val B l+B^l.length*val B a:=by
 induction l with
 |nil=>simp[val]
 |cons x l b=>simp only[List.cons_append,val,b,List.length_cons,Nat.pow_succ];grind
theorem nr(h:eG d H):val d H<d^H.length:=by
 induction H with
 |nil=>simp[val]
 |cons x H c=>
  have e:=(eG.cons.1 h).1;have a:=c (eG.cons.1 h).2;simp only[val,List.length_cons,Nat.pow_succ];have b:d*(val d H+1)≤d*d^H.length:=Nat.mul_le_mul_left _ a;have f:x.toNat<d:=by omega
  rw[Nat.mul_comm (d^H.length) d];rw[Nat.mul_add]at b;omega
theorem iq{B:Nat}{l:List Int}{i:Nat}(a:i<l.length):val B (l.take (i+1))=val B (l.take i)+B^i*l[i].toNat:=by
 rw[List.take_succ_eq_append_getElem a,mF];simp[val,List.length_take,Nat.min_eq_left (Nat.le_of_lt a)]
theorem FY(B n:Nat):val B (List.replicate n 0)=0:=by
 induction n with
 |zero=>rfl
 |succ n a=>simp[List.replicate_succ,val,a]
theorem kf(a:n<H.length):val d (H.drop n)=H[n].toNat+d*val d (H.drop (n+1)):=by
 rw[List.drop_eq_getElem_cons a];rfl
theorem nq(B:Nat)(l:List Int)(i:Nat)(a:i≤l.length):val B l=val B (l.take i)+B^i*val B (l.drop i):=by
 conv=>lhs;rw[←List.take_append_drop i l]
 rw[mF,List.length_take,Nat.min_eq_left a]
theorem AM{B:Nat}{l:List Int}{i:Nat}{x:Int}(a:i<l.length):val B (l.set i x)+B^i*l[i].toNat=val B l+B^i*x.toNat:=by
 have e:l.set i x=l.take i++(x :: l.drop (i+1)):=by rw[List.set_eq_take_append_cons_drop,iP a]
 rw[e,mF,List.length_take,Nat.min_eq_left (Nat.le_of_lt a),nq B l i (Nat.le_of_lt a),kf a];simp only[val];grind
def uV(l:List Int):Prop:=∀x,l.getLast?= some x→x≠0
theorem ln(a:2≤d)(b:n≠0):Zc d n=((n%d:Nat):Int) :: Zc d (n / d):=by
 rw[Zc];rw[dif_neg (by omega)]
theorem fQ{B:Nat}(a:2≤B)(n:Nat):val B (Zc B n)=n:=by
 induction n using Nat.strongRecOn with
 |ind n b=>
  by_cases h:n=0
  ·subst h;rw[fH];rfl
  ·rw[ln a h];simp only[val];rw[b _ (Nat.div_lt_self (by omega) (by omega))];rw[tN];exact Nat.mod_add_div n B
theorem gq{B:Nat}(a:2≤B)(n:Nat):eG B (Zc B n):=by
 induction n using Nat.strongRecOn with
 |ind n b=>
  by_cases h:n=0
  ·subst h;rw[fH];exact eG.nil
  ·rw[ln a h,eG.cons];have:=Nat.mod_lt n (show 0<B by omega);exact⟨by omega,b _ (Nat.div_lt_self (by omega) (by omega))⟩
theorem A1{B:Nat}(a:2≤B):Zc B n=[]↔n=0:=by
 constructor
 ·intro h;have:=fQ a n;rw[h]at this;exact this.symm
 ·rintro rfl;exact fH B
theorem GB{B:Nat}(c:2≤B)(n:Nat):uV (Zc B n):=by
 induction n using Nat.strongRecOn with
 |ind n f=>
  by_cases h:n=0
  ·subst h;rw[fH];intro x a;cases a
  ·rw[ln c h];intro x a;by_cases b:n / B=0
   ·rw[b,fH]at a;simp at a;have:=Nat.mod_add_div n B;rw[b]at this;omega
   ·have d:Zc B (n / B)≠[]:=λe=>b ((A1 c).1 e);rw[List.getLast?_cons_of_ne_nil d]at a;exact f _ (Nat.div_lt_self (by omega) (by omega)) x a
theorem xo(g:2≤d):∀{l:List Int},eG d l→uV l→Zc d (val d l)=l
 |[],_,_=>fH d
 |x :: l,h,c=>by
  obtain⟨n,i⟩:=eG.cons.1 h
  have e:val d (x :: l)≠0:=by
   intro e;simp only[val]at e;have m:val d l=0:=by
    have:d*val d l=0:=by omega
    rcases Nat.mul_eq_zero.1 this with h |h
    ·omega
    ·exact h
   by_cases a:l=[]
   ·subst a;have:=c x (by simp);omega
   ·have f:uV l:=λy b=>c y (by rw[List.getLast?_cons_of_ne_nil a];exact b);have:=xo g i f;rw[m,fH]at this;exact a this.symm
  have f:uV l:=by
   intro y b;have a:l≠[]:=by rintro rfl;cases b
   exact c y (by rw[List.getLast?_cons_of_ne_nil a];exact b)
  rw[ln g e];have j:val d (x :: l)%d=x.toNat:=by simp only[val];rw[Nat.add_mul_mod_self_left];exact Nat.mod_eq_of_lt (by omega)
  have k:val d (x :: l) / d=val d l:=by
   simp only[val];rw[Nat.add_mul_div_left _ _ (by omega:0<d),Nat.div_eq_of_lt (by omega)];omega
  rw[j,k,xo g i f];congr 1;omega
theorem GP(a:n≠0)(h:n<d):Zc d n=[(n:Int)]:=by
 rw[ln (by omega) a,Nat.mod_eq_of_lt h,Nat.div_eq_of_lt h,fH]
theorem xP{B:Nat}(b:2≤B){k:Nat}(h:n<B^k):(Zc B n).length≤k:=by
 induction k generalizing n with
 |zero=>simp at h;subst h;rw[fH];simp
 |succ k c=>
  by_cases a:n=0
  ·subst a;rw[fH];simp
  ·rw[ln b a,List.length_cons];have:n / B<B^k:=Nat.div_lt_of_lt_mul (by rw[Nat.pow_succ,Nat.mul_comm]at h;exact h);have:=c this;omega
theorem kH{B:Nat}(a:2≤B)(n:Nat):n<B^(Zc B n).length:=by
 have:=nr (gq a n)
 rwa [fQ a]at this
theorem Bi{B:Nat}(b:2≤B)(h:n≠0):B^((Zc B n).length-1)≤n:=by
 induction n using Nat.strongRecOn with
 |ind n f=>
  rw[ln b h,List.length_cons];by_cases a:n / B=0
  ·rw[a,fH];simp;omega
  ·have c:=f _ (Nat.div_lt_self (by omega) (by omega)) a;have g:0<(Zc B (n / B)).length:=List.length_pos_iff.2 λe=>a ((A1 b).1 e);have d:(Zc B (n / B)).length+1-1=(Zc B (n / B)).length-1+1:=by omega
   rw[d,Nat.pow_succ];have i:B^((Zc B (n / B)).length-1)*B≤n / B*B:=mR _ c;have j:=Nat.div_mul_le_self n B;omega
def Z5(n m:Nat):Int:=if n<m then -1 else if m<n then 1 else 0
def pH(n:Nat):Option Bool:=some (decide (n=1))
def gX(a:List Int):Option Nat:=some (val 18446744073709551616 a)
def nc(n m:Nat):Option Int:=some (Z5 n m)
def yF(l:List Int):Option Nat:=if Zc 18446744073709551616 (val 18446744073709551616 l)=l then some (val 18446744073709551616 l) else none
def gx(l:List Int):Option Nat:=if Zc 4294967296 (val 4294967296 l)=l then some (val 4294967296 l) else none
theorem ZfA(h:yF H=some d):Zc 18446744073709551616 d=H:=by
 unfold yF at h;split at h
 ·cases h;assumption
 ·cases h
theorem WY(h:gx H=some d):Zc 4294967296 d=H:=by
 unfold gx at h;split at h
 ·cases h;assumption
 ·cases h
theorem rF(h:(Zy (Zd .u64)).rel g Ξ H)(e:yF H=some d):Zx.rel g Ξ d:=by
 show(Zy (Zd .u64)).rel g Ξ (Zc 18446744073709551616 d);rw[ZfA e];exact h
theorem ZzE(h:(Zy (Zd .u32)).rel g Ξ H)(e:gx H=some d):iF.rel g Ξ d:=by
 show(Zy (Zd .u32)).rel g Ξ (Zc 4294967296 d);rw[WY e];exact h
theorem Rh(n:Nat):gx (Zc 4294967296 n)=some n:=by
 unfold gx;rw[fQ (by decide),iP rfl]
theorem Sm(h:eG 18446744073709551616 H)(c:uV H):yF H=some (val 18446744073709551616 H):=by
 unfold yF;rw[xo (by decide) h c,iP rfl]
def eK(n:Nat):Prop:=(Zc 18446744073709551616 n).length≤68719476736
instance (n:Nat):Decidable (eK n):=inferInstanceAs (Decidable (_≤_))
def Em(n m:Nat):Option Nat:=if eK n∧eK m then some (n+m) else none
def BG(n m:Nat):Option Nat:=if eK n∧m≤n then some (n-m) else none
def gI(n m:Nat):Option Nat:=if eK n∧eK m then some (n*m) else none
def oK(n:Nat)(k:Int):Option Nat:=if eK n∧0≤k∧k≤1099511627776 then some (n*2^k.toNat) else none
def xn(n:Nat)(k:Int):Option Nat:=if eK n∧0≤k then some (n / 2^k.toNat) else none
def pB(n:Nat)(d:Int):Option (Nat×Int):=if eK n∧0<d then some (n / d.toNat,((n%d.toNat:Nat):Int)) else none
def iC(n m:Nat):Option (Nat×Nat):=if eK n∧eK m∧m≠0 then some (n / m,n%m) else none
def pc(n m:Nat):Option Nat:=if eK n∧eK m then some (Nat.gcd n m) else none
def BH(n m:Nat):Option Int:=if n<18446744073709551616∧m<18446744073709551616∧m≠0 then some ((Nat.gcd n m:Nat):Int) else none
def kO(x y:Int):Option (Int×Int):=if 0≤x∧0≤y∧x<18446744073709551616∧y<18446744073709551616 then some (x*y / 18446744073709551616,x*y%18446744073709551616) else none
def bl(n:Nat):Nat:=if n=0 then 0 else Nat.log2 n+1
def CW(x:Int):Option Int:=if 0≤x∧x<18446744073709551616 then some (bl x.toNat:Int) else none
def oL(x:Int):Option Int:=if 0≤x∧x<18446744073709551616 then some (64-(bl x.toNat:Int)) else none
def mW(a lo y:Int):Option (Int×Int):=if 0≤a∧0≤lo∧lo<18446744073709551616∧a<y∧y<18446744073709551616 then some ((a*18446744073709551616+lo) / y,(a*18446744073709551616+lo)%y) else none
def jq:Nat→Nat→List Int
 |0,_=>[]
 |k+1,n=>((n%18446744073709551616:Nat):Int) :: jq k (n / 18446744073709551616)
def ju(n:Int):Option Nat:=some n.toNat
def AR(u:List Int)(v:Nat)(q:Int):Option (Bool×List Int) :=
 if eK v∧u.length=(Zc 18446744073709551616 v).length+1 then
  if val 18446744073709551616 u<v*q.toNat then some (false,u) else some (true,jq u.length (val 18446744073709551616 u-v*q.toNat))
 else none
def Cd(u:List Int)(v:Nat):Option (Int×List Int) :=
 if eK v∧u.length=(Zc 18446744073709551616 v).length+1∧2≤(Zc 18446744073709551616 v).length∧val 18446744073709551616 u<v*18446744073709551616 then
  some (((val 18446744073709551616 u / v:Nat):Int),jq u.length (val 18446744073709551616 u%v))
 else none
theorem UI:∀k n,(jq k n).length=k
 |0,_=>rfl
 |k+1,n=>by simp[jq,UI k]
theorem TS:∀k n,eG 18446744073709551616 (jq k n)
 |0,_=>eG.nil
 |k+1,n=>eG.cons.2 ⟨by omega,TS k _⟩
theorem O5:∀{l:List Int},eG 18446744073709551616 l→jq l.length (val 18446744073709551616 l)=l
 |[],_=>rfl
 |x :: l,h=>by
  obtain⟨d,c⟩:=eG.cons.1 h
  have a:val 18446744073709551616 (x :: l)%18446744073709551616=x.toNat:=by simp only[val];omega
  have b:val 18446744073709551616 (x :: l) / 18446744073709551616=val 18446744073709551616 l:=by simp only[val];omega
  rw[List.length_cons,jq,a,b,O5 c]
  congr 1;omega
theorem Sx:∀{k n:Nat},n<18446744073709551616^k→val 18446744073709551616 (jq k n)=n
 |0,n,h=>by simp at h;subst h;rfl
 |k+1,n,h=>by
  have:n / 18446744073709551616<18446744073709551616^k:=Nat.div_lt_of_lt_mul (by rw[Nat.pow_succ,Nat.mul_comm]at h;exact h)
  simp only[jq,val]
  rw[Sx this]
  omega
def im(s:Bool)(n:Nat):Option Int:=if s=true∧n=0 then none else some (if s then -(n:Int) else n)
theorem Wz(h:jV.rel g [.bool G,q] y):G=decide (y<0)∧Zx.rel g [q] y.natAbs:=by
 obtain⟨a,f,e,b,d⟩:=h;have c:a=[.bool (decide (y<0))]:=b;subst c
 cases e
 exact⟨rfl,d⟩
theorem WC(h:Zx.rel g [q] d)(e:im G d=some y):jV.rel g [.bool G,q] y:=by
 unfold im at e;split at e
 ·cases e
 ·rename_i b
  cases e
  refine⟨[.bool G],[q],rfl,?_,?_⟩
  ·show[Value.bool G]=[Value.bool (decide _)]
   cases G
   ·simp
   ·have:d≠0:=λa=>b ⟨rfl,a⟩;simp;omega
  ·show Zx.rel g [q] (Int.natAbs _)
   cases G
   ·exact h
   ·simpa using h
theorem ZdD{c:Value}(h:Z9.rel g [q,τ,c] ψ):jV.rel g [q,τ] ψ.num∧Zx.rel g [c] (ZJ ψ.den):=by
 obtain⟨d,f,e,a,b⟩:=h;obtain⟨s,r,n,k,i⟩:=Fe a;obtain⟨t,p,o,j⟩:=ig b;have l:d=[.bool s,.slice r n k]:=i;have m:f=[.slice t p o]:=j;subst l m
 cases e
 exact⟨a,b⟩
def mU(d:Nat):Nat:=if d=0 then 1 else d
def wc(i:Int)(d:Nat):Option Rat:=if d≠1∧(mkRat i (mU d)).num=i∧ZJ (mkRat i (mU d)).den=d then some (mkRat i (mU d)) else none
theorem XJ{c:Value}(f:jV.rel g [q,τ] y)(h:Zx.rel g [c] d)(e:wc y d=some ψ):Z9.rel g [q,τ,c] ψ:=by
 unfold wc at e;split at e
 ·rename_i i;obtain⟨_,a,b⟩:=i;have e:=Option.some.inj e;rw[e]at a b;refine⟨[q,τ],[c],rfl,?_,?_⟩
  ·show jV.rel g [q,τ] ψ.num;rw[a];exact f
  ·show Zx.rel g [c] (ZJ ψ.den);rw[b];exact h
 ·cases e
theorem GU(d:Nat)(h:d≠0):mU (ZJ d)=d:=by
 unfold mU ZJ;by_cases a:d=1
 ·simp[a]
 ·rw[iN a,iN h]
theorem Lm(q:Rat):wc q.num (ZJ q.den)=some q:=by
 have e:=GU q.den q.den_nz;unfold wc;rw[e,Rat.mkRat_self,iP ⟨by unfold ZJ;split <;> omega,rfl,rfl⟩]
def jc(s:Bool)(n:Nat):Option Int:=some (if s then -(n:Int) else n)
def wI(n:Int):Option Int:=some n
def ZY(d:Nat):Option Nat:=some (mU d)
def qH(x:Int):Option Int:=some x.sign
def gl(x y:Int):Option Int:=if eK x.natAbs∧eK y.natAbs then some (x+y) else none
def fT(x y:Int):Option Int:=if eK x.natAbs∧eK y.natAbs then some (x*y) else none
def gp(x:Int)(n:Nat):Option Int:=if eK x.natAbs∧eK n then some (x*n) else none
def ic(x:Int):Option Int:=some (-x)
def m9(x:Rat):Option Bool:=some (decide (x=0))
def Dg(x y:Rat):Option Bool:=some (decide (x=y))
def vk(n:Int):Option Rat:=some (n:Rat)
def jO(n:Int)(d:Nat):Option Rat:=if eK n.natAbs∧eK d∧d≠0 then some (mkRat n d) else none
def i7(x:Rat):Prop:=bl x.num.natAbs≤1099511627776∧bl x.den≤1099511627776
instance (x:Rat):Decidable (i7 x):=inferInstanceAs (Decidable (_∧_))
def pf(x y:Rat):Option Rat:=if i7 x∧i7 y then some (x+y) else none
def pI(x y:Rat):Option Rat:=if i7 x∧i7 y then some (x-y) else none
def jm(x y:Rat):Option Rat:=if i7 x∧i7 y then some (x*y) else none
def Ca(x y:Rat):Option (Rat×Int):=if i7 x∧i7 y then some (if y=0 then(0,3) else(x / y,0)) else none
def mD(x:Rat):Option Rat:=some (-x)
def lm(x:Rat):Option Int:=some x.num.sign
def C7(n d:Int):Option (Rat×Int):=some (if d=0 then(0,3) else(Rat.divInt n d,0))
def Cb(x y:Rat):Option Int:=if i7 x∧i7 y then some (x-y).num.sign else none
theorem tO(h:rQ.rel g [.bool G,q,τ] ψ):G=decide (ψ.num<0)∧iF.rel g [q] ψ.num.natAbs∧iF.rel g [τ] ψ.den:=by
 obtain⟨c,j,e,d,i,k,rfl,a,b⟩:=h;obtain⟨p,n,l,rfl⟩:=oV a;obtain⟨r,o,m,rfl⟩:=oV b;have f:c=[.bool (decide (ψ.num<0))]:=d;subst f
 cases e
 exact⟨rfl,a,b⟩
def fE(s:Bool)(n:Nat):Int:=if s then -(n:Int) else n
def o9(s:Bool)(n d:Nat):Option Rat:=if decide ((mkRat (fE s n) d).num<0)=s∧(mkRat (fE s n) d).num.natAbs=n∧(mkRat (fE s n) d).den=d then some (mkRat (fE s n) d) else none
theorem U8(f:iF.rel g [q] d)(h:iF.rel g [τ] n)(e:o9 G d n=some ψ):rQ.rel g [.bool G,q,τ] ψ:=by
 unfold o9 at e;split at e
 ·rename_i i;obtain⟨a,b,c⟩:=i;have e:=Option.some.inj e;rw[e]at a b c;refine⟨[.bool G],[q,τ],rfl,?_,[q],[τ],rfl,?_,?_⟩
  ·show[Value.bool G]=[Value.bool (decide (ψ.num<0))];rw[a]
  ·show iF.rel g [q] ψ.num.natAbs;rw[b];exact f
  ·show iF.rel g [τ] ψ.den;rw[c];exact h
 ·cases e
theorem uv(q:Rat):fE (decide (q.num<0)) q.num.natAbs=q.num:=by
 unfold fE;by_cases h:q.num<0
 ·simp[h];omega
 ·simp[h];omega
theorem RA(q:Rat):o9 (decide (q.num<0)) q.num.natAbs q.den=some q:=by
 unfold o9;rw[uv,Rat.mkRat_self,iP ⟨rfl,rfl,rfl⟩]
section
open Go.WideShapes Go.ChangeShapes
def J5(W:World):Zb:=λb=>W.heap[b]?
theorem Y0(W:World):fc (J5 W) W:=λ_ _ h=>h
def kh(P:Program)(t:TypeId){e:Type}(A:ee e):Prop:=∀(H:Type) (c:TypeId×Value→H) (W:World) (d:Nat) (b:List Value) (x:DataW H×List MemPlace),
 DataW.trod c P W 0 (λ_=>true) true d t b=some x→∃a,A.rel (J5 W) b a
theorem Qu(c:e.underlying j=some (.int u)):kh e j (Zd u):=by
 intro H f W b d x h
 cases b with
 |zero=>simp[DataW.trod]at h
 |succ n=>
  unfold DataW.trod at h;rw[c]at h;split at h <;> simp_all;rename_i i z g;obtain⟨⟨rfl,a⟩,_⟩:=h;refine⟨z,rfl,?_⟩;simp only[Lit.wf,Bool.and_eq_true,decide_eq_true_eq]at a;exact a
theorem Xi{c d:Field}{B:ee θ}(u:e.underlying j=some (.struct #[c,d]))(p:kh e c.type E)(q:kh e d.type B)(v:c.offset=0)(l:e.cellsOf c.type=E.n)(w:d.offset=E.n)(m:e.cellsOf d.type=B.n)(o:e.cellsOf j=E.n+B.n):kh e j (Zj E B):=by
 intro H y W z f x h;obtain⟨A,C,n,_,t,g,i⟩:=trod_struct2 u h;rw[v,l,List.drop_zero]at g;rw[w,m]at i;obtain⟨a,s⟩:=p _ _ _ _ _ _ g;obtain⟨b,k⟩:=q _ _ _ _ _ _ i;rw[List.take_of_length_le (by rw[List.length_drop,t,o];omega)]at k;exact⟨(a,b),f.take E.n,f.drop E.n,(List.take_append_drop _ _).symm,s,k⟩
theorem ZkD{T:TypeId}(e:c.heap[d]?= some (.cells C T Θ))(h:c.cells? 0 ⟨d,n,none⟩ A=some m):m=(C.toList.drop n).take A:=by
 obtain⟨_,g,b⟩:=World.cells?_some h;apply List.ext_getElem?;intro j;by_cases f:j<A
 ·have a:=b j (by omega);rw[gG]at a;simp only[World.cell?,e,Option.isSome_none,Bool.false_eq_true,if_false]at a;rw[List.getElem?_take_of_lt f,List.getElem?_drop]
  simpa using a.symm
 ·rw[List.getElem?_eq_none (by omega),List.getElem?_take_eq_none (by omega)]
theorem Sv(N:e.underlying j=some (.slice B))(I:kh e B E)(A:e.cellsOf B=E.n)(hn:0<E.n):kh e j (Zy E):=by
 intro H Y W Z U x h;rcases Go.Deep.open_slice N h with⟨rfl,_⟩ |⟨a,o,t,m,n,D,Pl,rfl,_,w,z,L,_,s⟩
 ·exact⟨[],Db E _⟩
 ·rw[A]at s;have a1:o≤m:=by rw[L];simp;omega
  by_cases G:o=0
  ·subst G;exact⟨[],some a,t,rfl,w,z,.inl rfl⟩
  ·obtain⟨X,J,_⟩:=s 0 (by omega);obtain⟨_,a0,K⟩:=World.cells?_some J;have d:=K 0 (by omega);rw[List.getElem?_eq_getElem (by omega)]at d;have M:=World.cell?_spot d;obtain⟨b,g,S⟩:=a;have hs:S=none:=by simpa [Addr.add] using M
   subst hs;obtain⟨c,T,f,i⟩:∃c T f,W.heap[b]?= some (.cells c T f):=by
    rw[gG,gG]at d;simp only[World.cell?]at d;split at d
    ·rename_i c T f i;exact⟨c,T,f,i⟩
    ·cases d
   have R:∀k,k≤o→∃l:List r,l.length=k∧E.rels (J5 W) ((c.toList.drop g).take (k*E.n)) l:=by
    intro k
    induction k with
    |zero=>intro _;exact⟨[],rfl,by rw[Nat.zero_mul,List.take_zero];exact qC⟩
    |succ k Q=>
     intro hk;obtain⟨l,p,q⟩:=Q (by omega);obtain⟨u,v,O⟩:=s k (by omega);rw[gG]at v;have C:=ZkD i v;obtain⟨y,P⟩:=I _ _ _ _ _ _ O;refine⟨l++[y],by simp[p],?_⟩;have F:(c.toList.drop g).take ((k+1)*E.n)=(c.toList.drop g).take (k*E.n)++u:=by
      rw[C,Nat.succ_mul,List.take_add,List.drop_drop]
     rw[F];exact ku q ⟨u,[],by simp,P,qC⟩
   obtain⟨l,p,q⟩:=R o (Nat.le_refl _);subst p;exact⟨l,some ⟨b,g,none⟩,t,rfl,w,z,.inr ⟨b,g,c,T,f,rfl,i,q⟩⟩
theorem M4{A:ee r}(f:A.agg=false)(b:e.underlying j=some (.slice B))(a:Value.okWide e c .any d j q):q=A.val q.cells.toList:=by
 unfold ee.val;rw[f];unfold Value.okWide at a;rw[b]at a;simp only[Cell.okWide,b]at a
 cases q <;> first |rfl |(simp[Cell.ok,b]at a)
theorem S0{j:TypeId×Value→r}(l:laidOutB e=true)(k:Below c.heap.size c F){m:Nat→Bool}:∀{ts:List TypeId} {i:List Value} {f:List (DataW r)} {b:List MemPlace},(∀t ∈ ts,e.readableRec t=true∧t<e.types.size)→
  DataW.TrodAll j e c 0 (λ_=>true) true ts i f b→(∀x ∈ b,x.block<c.heap.size∧m x.block=true)→DataW.TrodAll j e F 0 m true ts i f b
 |[],[],[],b,_,h,_=>h
 |t :: ts,v :: i,d :: f,b,g,h,hp=>by
  obtain⟨p,q,n,o,rfl⟩:=h
  exact⟨p,q,WideElems.Trod_stays l (g t (List.mem_cons_self ..)).1 (g t (List.mem_cons_self ..)).2 n (λx a=>k.same (hp x (List.mem_append_left _ a)).1) (λx a=>(hp x (List.mem_append_left _ a)).2),
   S0 l k (λu s=>g u (List.mem_cons_of_mem _ s)) o (λx a=>hp x (List.mem_append_right _ a)),rfl⟩
theorem Xy{g:TypeId×Value→r}{s:ChangeSpec}{J M H:Bool}{d gs:List (DataW r)}{I:List MemPlace}(N:laidOutB e=true)(R:∀t ∈ π.params.toList,e.readableRec t=true∧t<e.types.size)(z:e.underlying j=some .bool)(v:π.resultTypes= #[j])(y:s.vars=[])(W:(s.fn r (d++gs)).vars=[])(S:(s.fn r (d++gs)).results=[.lit (.bool true)])(U:(s.fn r (d++gs)).args=d)(l:DataW.Whole g e π.params.toList s.vars G c C.toList d gs I)(h:Below c.heap.size c F):s.post g e π G J M H c C (.bool true) F:=by
 have m:=l;obtain⟨p,q,K,k,rfl,Y,O⟩:=l;have i:∀x ∈ p++q,x.block<c.heap.size:=λx a=>m.lt x a;rw[y]at k;obtain⟨rfl,rfl⟩:=trodVars_none k;have Q:∀x ∈ p++[],(λb=>decide (b<c.heap.size)) x.block=true:=λx a=>by simpa using i x a
 have n:∀f:Nat→Bool,(∀x ∈ p++[],f x.block=true)→DataW.TrodAll g e F 0 f true π.params.toList C.toList (s.fn r (d++[])).args p:=λf X=>by
  rw[U];exact S0 N h R K (λx a=>⟨i x (List.mem_append_left _ a),X x (List.mem_append_left _ a)⟩)
 have A:∀f:Nat→Bool,DataW.TrodVars g e F f s.vars (s.fn r (d++[])).vars []:=λf=>by rw[y,W];rfl
 have w:∀(b:Nat) (f:Nat→Bool) (o:Bool),DataW.TrodAll g e F b f o π.resultTypes.toList ((Value.bool true).resultList π.resultTypes.size) (s.fn r (d++[])).results []:=λb f o=>by
  rw[v,S];exact trodAll_mk1 (shut_bool z _)
 have P:∀(B:Nat) (t:TypeId) (E:Value),π.resultTypes[B]?= some t→((Value.bool true).resultList π.resultTypes.size)[B]?= some E→Value.okWide e F .any 0 t E:=ok_one v rfl (okWide_bool_mk z _);refine⟨d,[],p++[],[],p,[],m,w _ _ _,n _ Q,A _,World.keptBut_mono (λx a=>⟨a,?_⟩) (h.frame (· ∈ p++[])),λ_=>?_⟩
 ·simpa using a
 ·refine⟨P,_,_,([]++p)++[],⟨[]++p,[],trodAll_append (n _ (λ_ _=>rfl)) (w _ _ _),A _,rfl,?_,?_⟩,?_⟩
  ·intro b D hp;have u:MemPlace.cell b D ∈ p++[]:=by simpa using hp
   rw[h.frozen (i _ u)];exact Y b D u
  ·intro L;have:=O L
   simpa using this
  ·intro x a _
   simpa using a
def ZL(n:Nat):Prop:=(Zc 4294967296 n).length≤137438953472
instance (n:Nat):Decidable (ZL n):=inferInstanceAs (Decidable (_≤_))
def iS(a:List Int):Option Nat:=some (val 4294967296 a)
def kg(n:Int):Option Nat:=some n.toNat
def j6(n m:Nat):Option Int:=some (Z5 n m)
def mH(n m:Nat):Option Nat:=if ZL n∧ZL m then some (n+m) else none
def ke(n m:Nat):Option Nat:=if ZL n∧m≤n then some (n-m) else none
def gJ(n m:Nat):Option Nat:=if ZL n∧ZL m then some (n*m) else none
def wh(n:Nat):Option Int:=if ZL n then some (bl n) else none
def jn(n:Nat)(k:Int):Option Nat:=if ZL n∧0≤k∧k≤1099511627776 then some (n*2^k.toNat) else none
def pC(n:Nat)(k:Int):Option Nat:=if ZL n∧0≤k then some (n / 2^k.toNat) else none
def wa(n:Nat)(d:Int):Option (Nat×Int):=if ZL n∧0<d then some (n / d.toNat,((n%d.toNat:Nat):Int)) else none
def fU(n:Int):Option Rat:=some (n:Rat)
def lg(x:Rat):Option Nat:=some x.den
def ZI(n:Nat):List UInt8:=if h:n=0 then[] else ZI (n / 10)++[UInt8.ofNat (48+n%10)]
termination_by n
decreasing_by omega
def ZW(n:Nat):List UInt8:=if n=0 then[48] else ZI n
def B8(n:Int):Option (List UInt8):=some (ZI n.toNat)
def ou(x:Rat):List UInt8:=(if x.num<0 then[45] else[])++ZW x.num.natAbs++(if x.den=1 then[] else 47 :: ZW x.den)
def kN(r:Int×Int):Rat:=if r.2=0 then(r.1:Rat) else Rat.divInt r.1 r.2
def qF(r:Int×Int):Option Rat:=some (kN r)
def lh(x:Rat):Option Bool:=some (decide (x=0))
def kR(x:Rat):Option Int:=some x.num.sign
def C5(n d:Int):Option (Rat×Int):=some (if d=0 then(0,3) else(Rat.divInt n d,0))
def oI(r:Int×Int):Option Rat:=some (kN r)
def wT(x:Rat):Prop:=bl x.num.natAbs≤68719476736∧bl x.den≤68719476736
instance (x:Rat):Decidable (wT x):=inferInstanceAs (Decidable (_∧_))
noncomputable def O0(a:(List Int)):Option (Bool) :=
 dU (dV (((a.length:Int))==(1:Int))
 (dU (dX a (0:Int)) λb=>
 some (b==(1:Int)))
 (some false))
 (λ(c:Bool)=>
 (some c))
noncomputable def wy(a:(List Int)):Option ((List Int)) :=
 dU (dU (Zg (λs:(List Int)=>match s with
|b=>
 (dU (dV (decide ((0:Int)<(b.length:Int)))
 (dU (chk .i64 (((b.length:Int))-(1:Int))) λc=>
 dU (dX b c) λd=>
 some (d==(0:Int)))
 (some false))
 (λ(e:Bool)=>
 (dV (e)
 (dU (chk .i64 (((b.length:Int))-(1:Int))) λf=>
 dU (Z4 b (0:Int) f) λg=>
 some (.inl g))
 (some (.inr b)))))) Zh a)
 (λ(h:(List Int))=>
 (some h)))
 (λ(i:(List Int))=>
 (some i))
noncomputable def wu(a:(List Int))(b:(List Int)):Option (Int) :=
 dV (((a.length:Int)) != ((b.length:Int)))
 (dV (decide ((a.length:Int)<(b.length:Int)))
 (some (-1:Int))
 (some (1:Int)))
 (dU (chk .i64 (((a.length:Int))-(1:Int))) λd=>
 dU (dU (Zg (λs:Int=>match s with
|c=>
 (dV (decide ((0:Int)≤c))
 (dU (dX a c) λe=>
 dU (dX b c) λf=>
 dV (decide (e<f))
 (some (.inr ((.inl (-1:Int)))))
 (dU (dX a c) λg=>
 dU (dX b c) λh=>
 dV (decide (h<g))
 (some (.inr ((.inl (1:Int)))))
 (dU (chk .i64 (c-(1:Int))) λi=>
 some (.inl i))))
 (some (.inr ((.inr (()))))))) Zh d)
 (λ(p:(Int) ⊕ (Unit))=>match p with
|.inl j=>
 (some ((.inr j)))
|.inr (())=>
 (some ((.inl (()))))))
 (λ(p:(Unit) ⊕ (Int))=>match p with
|.inl (())=>
 (some (0:Int))
|.inr k=>
 (some k)))
noncomputable def MR(a:Nat)(b:Nat):Option (Int) :=
 dU (dV (decide ((0:Int)<(((Zc 18446744073709551616 a)).length:Int)))
 (dU (dX ((Zc 18446744073709551616 a)) (0:Int)) λe=>
 some e)
 (some (0:Int)))
 (λ(f:Int)=>
 (dU (dX ((Zc 18446744073709551616 b)) (0:Int)) λg=>
 dU (dU (Zg (λs:Int×Int=>match s with
|(d,c)=>
 (dV (decide ((0:Int)<c))
 (dU (rem .u64 d c) λh=>
 some (.inl ((c,h))))
 (some (.inr d)))) Zh ((f,g)))
 (λ(i:Int)=>
 (some i)))
 (λ(j:Int)=>
 (some j))))
theorem ZuE:O0 (Zc 18446744073709551616 d)=some (decide (d=1)):=by
 unfold O0;by_cases h:d=1
 ·subst h;rw[GP (by omega) (by decide)];rfl
 ·by_cases b:d=0
  ·subst b;rw[fH];rfl
  ·rw[ln (by decide) b];by_cases a:d / 18446744073709551616=0
   ·rw[a,fH];have:d%18446744073709551616=d:=Nat.mod_eq_of_lt (by have:=Nat.mod_add_div d 18446744073709551616;rw[a]at this;have:=Nat.mod_lt d (show 0<18446744073709551616 by decide);omega);simp[dV,dU,dX,this,h];omega
   ·have c:Zc 18446744073709551616 (d / 18446744073709551616)≠[]:=λe=>a ((A1 (by decide)).1 e);have i:0<(Zc 18446744073709551616 (d / 18446744073709551616)).length:=List.length_pos_iff.2 c;have f:((((d%18446744073709551616:Nat):Int) :: Zc 18446744073709551616 (d / 18446744073709551616)).length:Int)==1↔False:=by
     simp only[List.length_cons,beq_iff_eq,iff_false];omega
    have g:(((((d%18446744073709551616:Nat):Int) :: Zc 18446744073709551616 (d / 18446744073709551616)).length:Int)==1)=false:=by simpa using f
    rw[g];simp[dV,dU,h]
theorem yM(l:eG 18446744073709551616 H)(n:H.length≤9223372036854775807):wy H=some (Zc 18446744073709551616 (val 18446744073709551616 H)):=by
 unfold wy;rw[GL (r:=Zc 18446744073709551616 (val 18446744073709551616 H)) (λs=>eG 18446744073709551616 s∧s.length≤9223372036854775807∧val 18446744073709551616 s=val 18446744073709551616 H) List.length ⟨l,n,rfl⟩ (ZR (by omega)) ?_]
 ·rfl
 ·rintro s ⟨d,o,e⟩;by_cases c:s=[]
  ·subst c;right;rw[←e];show some (Sum.inr [])=_;rw[show val 18446744073709551616 []=0 from rfl,fH]
  ·have hp:0<s.length:=List.length_pos_iff.2 c;have g:decide ((0:Int)<(s.length:Int))=true:=eo (by omega);have h:chk .i64 ((s.length:Int)-1)=some ((s.length-1:Nat):Int):=by
    rw[Zk (by omega) (by omega)];congr 1;omega
   have i:dX s ((s.length-1:Nat):Int)=some (s[s.length-1]'(by omega)):=Zz (by omega);simp only[g,Ze,h,Za,i];by_cases a:s[s.length-1]'(by omega)=0
   ·left;have b:((s[s.length-1]'(by omega))==0)=true:=by simp[a]
    simp only[b,Ze];have j:Z4 s 0 ((s.length-1:Nat):Int)=some (s.take (s.length-1)):=by
     unfold Z4;rw[iP ⟨by omega,by omega,by omega⟩];simp
    rw[j];refine⟨_,rfl,⟨d.take _,by simp;omega,?_⟩,by simp;omega⟩;have:=iq (B:=18446744073709551616) (l:=s) (i:=s.length-1) (by omega);rw[a]at this;have k:s.length-1+1=s.length:=by omega
    rw[k,List.take_length]at this;simp at this;omega
   ·right;have b:((s[s.length-1]'(by omega))==0)=false:=by simp[a]
    simp only[b,Zf];have m:uV s:=by
     intro x f;rw[List.getLast?_eq_getElem?,List.getElem?_eq_getElem (by omega)]at f
     cases f;exact a
    rw[←e,xo (by decide) d m]
theorem l5{B n:Nat}(a:2≤B):(Zc B n)≠[]↔n≠0:=not_congr (A1 a)
theorem GF{B n m:Nat}(a:2≤B)(h:(Zc B n).length<(Zc B m).length):n<m:=by
 have c:=kH a n;have b:m≠0:=by rintro rfl;rw[fH]at h;simp at h
 have d:=Bi a b;have e:B^(Zc B n).length≤B^((Zc B m).length-1):=Nat.pow_le_pow_right (by omega) (by omega);omega
theorem Gb{b:List Int}(a:eG d H)(g:eG d b)(l:H.length=b.length)(c:n<H.length)(i:H.drop (n+1)=b.drop (n+1))(h:H[n]<b[n]'(by omega)):val d H<val d b:=by
 rw[nq d H (n+1) (by omega),nq d b (n+1) (by omega),i,iq c,iq (by omega:n<b.length)];have e:=nr (a.take n);rw[List.length_take,Nat.min_eq_left (by omega)]at e;have j:=a.get c;have k:=g.get (i:=n) (by omega);have f:d^n*(H[n].toNat+1)≤d^n*(b[n]'(by omega)).toNat:=Nat.mul_le_mul_left _ (by omega);rw[Nat.mul_add]at f;omega
theorem yG(u:(Zc 18446744073709551616 d).length≤9223372036854775807)(v:(Zc 18446744073709551616 n).length≤9223372036854775807):wu (Zc 18446744073709551616 d) (Zc 18446744073709551616 n)=some (Z5 d n):=by
 unfold wu;by_cases k:(Zc 18446744073709551616 d).length=(Zc 18446744073709551616 n).length
 ·have g:(((Zc 18446744073709551616 d).length:Int) != ((Zc 18446744073709551616 n).length:Int))=false:=by simp[k]
  rw[g,Zf];rw[Zk (by omega) (by omega),Za];have l:=gq (B:=18446744073709551616) (by decide) d;have m:=gq (B:=18446744073709551616) (by decide) n;have t:=fQ (B:=18446744073709551616) (by decide) d;have r:=fQ (B:=18446744073709551616) (by decide) n;generalize Zc 18446744073709551616 d=a at *;generalize Zc 18446744073709551616 n=b at *;rw[GL (r:=if d<n then .inl (-1) else if n<d then .inl 1 else .inr ()) (λs:Int=>-1≤s∧s<a.length∧a.drop (s+1).toNat=b.drop (s+1).toNat) (λs=>(s+1).toNat) ⟨by omega,by omega,?_⟩ (ZR (by omega)) ?_]
  ·rw[Za];unfold Z5;by_cases c:d<n
   ·simp only[iP c];rfl
   ·by_cases f:n<d
    ·simp only[iN c,iP f];rfl
    ·simp only[iN c,iN f];rfl
  ·rw[List.drop_eq_nil_of_le (by omega),List.drop_eq_nil_of_le (by omega)]
  ·rintro s ⟨w,x,e⟩;by_cases hs:0≤s
   ·obtain⟨i,rfl⟩:=oZ hs;have h:i<a.length:=by omega
    have j:i<b.length:=by omega
    have o:decide ((0:Int)≤(i:Int))=true:=eo hs;simp only[o,Ze,Zz h,Zz j,Za];have q:((i:Int)+1).toNat=i+1:=by omega
    rw[q]at e;by_cases c:a[i]<b[i]
    ·right;have:=Gb l m k h e c;rw[eo c,Ze,iP (by omega)]
    ·by_cases f:b[i]<a[i]
     ·right;have:=Gb m l k.symm j e.symm f;rw[eg c,Zf,eo f,Ze,iN (by omega),iP (by omega)]
     ·left;rw[eg c,Zf,eg f,Zf,Zk (by omega) (by omega),Za];refine⟨_,rfl,⟨by omega,by omega,?_⟩,by simp⟩;have p:((i:Int)-1+1).toNat=i:=by omega
      rw[p,List.drop_eq_getElem_cons h,List.drop_eq_getElem_cons j,e];congr 1;omega
   ·right;have:s= -1:=by omega
    subst this;simp at e;have:d=n:=by rw[←t,←r,e]
    subst this;simp[dV]
 ·have g:(((Zc 18446744073709551616 d).length:Int) != ((Zc 18446744073709551616 n).length:Int))=true:=by simp;omega
  rw[g,Ze];by_cases c:(Zc 18446744073709551616 d).length<(Zc 18446744073709551616 n).length
  ·have:=GF (by decide) c;rw[eo (by omega),Ze];simp[Z5,this]
  ·have:=GF (B:=18446744073709551616) (n:=n) (m:=d) (by decide) (by omega);rw[eg (by omega),Zf];have e:¬d<n:=by omega
   simp[Z5,this,e]
theorem LI(b:2≤d)(a:n≠0)(h:n<d):dX (Zc d n) 0=some (n:Int):=by rw[GP a h];rfl
theorem ZxC(o:d<18446744073709551616)(m:n<18446744073709551616)(j:n≠0):MR d n=some ((Nat.gcd d n:Nat):Int):=by
 unfold MR;have f:dV (decide ((0:Int)<((Zc 18446744073709551616 d).length:Int))) (dU (dX (Zc 18446744073709551616 d) 0) λp=>some p) (some 0)=some (d:Int):=by
  by_cases h:d=0
  ·subst h;rw[fH];rfl
  ·rw[GP h o];rfl
 rw[f,Za,LI (by decide) j m,Za];rw[GL (r:=((Nat.gcd d n:Nat):Int)) (λs:Int×Int=>0≤s.1∧0≤s.2∧s.2<18446744073709551616∧Nat.gcd s.1.toNat s.2.toNat=Nat.gcd d n) (λs=>s.2.toNat) ⟨by simp,by simp,by simp;omega,by simp⟩ (ZR (by simp;omega)) ?_]
 ·rfl
 ·rintro⟨x,y⟩ ⟨b,c,k,a⟩;simp only at b c k a ⊢;by_cases e:y=0
  ·right;subst e;simp at a;simp[dV];omega
  ·left;rw[eo (by omega),Ze];have g:rem .u64 x y=some (x.tmod y):=by unfold rem;rw[iN e]
   rw[g,Za];obtain⟨X,rfl⟩:=oZ b;obtain⟨Y,rfl⟩:=oZ c;have i:(X:Int).tmod (Y:Int)=((X%Y:Nat):Int):=by simp[Int.tmod_eq_emod_of_nonneg]
   rw[i];have l:0<Y:=by omega
   have:=Nat.mod_lt X l;refine⟨_,rfl,⟨by omega,by omega,by simp;omega,?_⟩,by simp;omega⟩;simp only[tN]at a ⊢;rw[←a]
   conv=>rhs;rw[Nat.gcd_comm,Nat.gcd_rec,Nat.gcd_comm]
noncomputable def M8(a:Nat)(b:Nat):Option (Nat) :=
 dU (dV (decide ((((Zc 18446744073709551616 a)).length:Int)<(((Zc 18446744073709551616 b)).length:Int)))
 (some ((b,a)))
 (some ((a,b))))
 (λ(p:Nat×Nat)=>match p with
|(d,h)=>
 (dU (chk .i64 (((((Zc 18446744073709551616 d)).length:Int))+(1:Int))) λk=>
 dU (mk 8 ((((Zc 18446744073709551616 d)).length:Int)) k) λv=>
 dU (dU (Zg (λs:(List Int)×Int×Int=>match s with
|(e,i,c)=>
 (dV (decide (c<(((Zc 18446744073709551616 d)).length:Int)))
 (dU (dX ((Zc 18446744073709551616 d)) c) λl=>
 dU (dV (decide (c<(((Zc 18446744073709551616 h)).length:Int)))
 (dU (dX ((Zc 18446744073709551616 h)) c) λm=>
 some m)
 (some (0:Int)))
 (λ(n:Int)=>
 (dU (jw l n i) λj=>
 dU (dX e c) λw=>
 dU (chk .i64 (c+(1:Int))) λo=>
 some (.inl (((e.set (c).toNat j.1),j.2,o))))))
 (some (.inr ((e,i)))))) Zh (((List.replicate ((((Zc 18446744073709551616 d)).length:Int)).toNat (0:Int)),(0:Int),(0:Int))))
 (λ(p:(List Int)×Int)=>match p with
|(q,r)=>
 (some ((q,r)))))
 (λ(p:(List Int)×Int)=>match p with
|(f,g)=>
 (dU (dV (decide ((0:Int)<g))
 (dU (ZE 8 (f++[g])) λx=>
 some ((f++[g])))
 (some f))
 (λ(t:(List Int))=>
 (dU (yF t) λu=>
 some u))))))
noncomputable def MF(a:Nat)(b:Nat):Option (Nat) :=
 dU (mk 8 ((((Zc 18446744073709551616 a)).length:Int)) ((((Zc 18446744073709551616 a)).length:Int))) λn=>
 dU (dU (Zg (λs:(List Int)×Int×Int=>match s with
|(d,f,c)=>
 (dV (decide (c<(((Zc 18446744073709551616 a)).length:Int)))
 (dU (dX ((Zc 18446744073709551616 a)) c) λg=>
 dU (dV (decide (c<(((Zc 18446744073709551616 b)).length:Int)))
 (dU (dX ((Zc 18446744073709551616 b)) c) λh=>
 some h)
 (some (0:Int)))
 (λ(i:Int)=>
 (dU (nI g i f) λe=>
 dU (dX d c) λo=>
 dU (chk .i64 (c+(1:Int))) λj=>
 some (.inl (((d.set (c).toNat e.1),e.2,j))))))
 (some (.inr d)))) Zh (((List.replicate ((((Zc 18446744073709551616 a)).length:Int)).toNat (0:Int)),(0:Int),(0:Int))))
 (λ(k:(List Int))=>
 (some k)))
 (λ(l:(List Int))=>
 (dU (gX l) λm=>
 some m))
theorem SY{V lo y c B:Nat}(h:V+d*c=A+N)(e:lo+B*κ=a3+y+c):V+d*lo+d*B*κ=A+d*a3+(N+d*y):=by
 grind
theorem KZ{V lo y c B:Nat}(h:V+N=A+d*c)(e:lo+y+c=a3+B*κ):V+d*lo+(N+d*y)=A+d*a3+d*B*κ:=by
 grind
theorem Vj{k:Nat}(a:eG d H)(c:0<d):∃y:Int,dU (dV (decide ((k:Int)<(H.length:Int))) (dU (dX H (k:Int)) λy=>some y) (some 0)) (λx=>some x)=some y∧0≤y∧y<d∧val d (H.take (k+1))=val d (H.take k)+d^k*y.toNat∧
  ∀ {b:Type} (f:Int→Option b),dU (dV (decide ((k:Int)<(H.length:Int))) (dU (dX H (k:Int)) λy=>some y) (some 0)) f=f y:=by
 by_cases h:k<H.length
 ·have e:decide ((k:Int)<(H.length:Int))=true:=eo (by omega);refine⟨H[k],?_,(a.get h).1,(a.get h).2,iq h,λf=>?_⟩
  ·rw[e,Ze,Zz h];rfl
  ·rw[e,Ze,Zz h];rfl
 ·have e:decide ((k:Int)<(H.length:Int))=false:=eg (by omega);refine⟨0,?_,by omega,by omega,?_,λf=>?_⟩
  ·rw[e];rfl
  ·rw[List.take_of_length_le (by omega),List.take_of_length_le (by omega)];simp
  ·rw[e];rfl
theorem ZlF(h:d<H.length):(H.set d y).take (d+1)=H.take d++[y]:=by
 rw[List.take_set,List.take_succ_eq_append_getElem h,List.set_append_right _ _ (by simp;omega)];simp[List.length_take,Nat.min_eq_left (Nat.le_of_lt h)]
theorem Br{B:Nat}{l:List Int}{x:Int}(h:n<l.length):val B ((l.set n x).take (n+1))=val B (l.take n)+B^n*x.toNat:=by
 rw[ZlF h,mF,List.length_take,Nat.min_eq_left (by omega)];simp[val]
theorem D6{x y c:Int}(d:0≤x)(e:0≤y)(a:0≤c)(b:c≤1):jw x y c=some ((x+y+c)%18446744073709551616,(x+y+c) / 18446744073709551616):=by
 unfold jw;rw[iP ⟨d,e,a,b⟩]
theorem UQ{x y c:Int}(d:0≤x)(e:0≤y)(a:0≤c)(b:c≤1):nI x y c=some ((x-y-c)%18446744073709551616,if x<y+c then 1 else 0):=by
 unfold nI;rw[iP ⟨d,e,a,b⟩]
theorem lZ{b:Nat}{l c:Int}(a:0≤l)(d:l≤c)(e:(b:Int)*c≤281474976710656)(f:c≤9223372036854775807):∃u,mk b l c=some u:=by
 unfold mk;rw[iP ⟨a,d,e,f⟩];exact⟨_,rfl⟩
theorem tx(H:eK d)(G:eK n):M8 d n=some (d+n):=by
 unfold M8;obtain⟨x,y,e,w,B,X,Q⟩:∃x y:Nat,dV (decide ((((Zc 18446744073709551616 d)).length:Int)<(((Zc 18446744073709551616 n)).length:Int))) (some (n,d)) (some (d,n))=some (x,y)∧eK x∧eK y∧x+y=d+n∧
   (Zc 18446744073709551616 y).length≤(Zc 18446744073709551616 x).length:=by
  by_cases h:(Zc 18446744073709551616 d).length<(Zc 18446744073709551616 n).length
  ·exact⟨n,d,by rw[eo (by omega)];rfl,G,H,by omega,by omega⟩
  ·exact⟨d,n,by rw[eg (by omega)];rfl,H,G,rfl,by omega⟩
 rw[e,Za,←X];simp only;have q:=gq (B:=18446744073709551616) (by decide) x;have N:=gq (B:=18446744073709551616) (by decide) y;have v:=fQ (B:=18446744073709551616) (by decide) x;have W:=fQ (B:=18446744073709551616) (by decide) y;have F:=GB (B:=18446744073709551616) (by decide) x;have Z:=GB (B:=18446744073709551616) (by decide) y;unfold eK at w B;generalize Zc 18446744073709551616 x=a at *;generalize Zc 18446744073709551616 y=b at *;rw[Zk (by omega) (by omega),Za];obtain⟨u,S⟩:=lZ (b:=8) (l:=(a.length:Int)) (c:=(a.length:Int)+1) (by omega) (by omega) (by omega) (by omega);rw[S,Za,Z6];refine gg (λs:(List Int)×Int×Int=>∃k:Nat,s.2.2=(k:Int)∧k≤a.length∧s.1.length=a.length∧eG 18446744073709551616 s.1∧0≤s.2.1∧s.2.1≤1∧
  val 18446744073709551616 (s.1.take k)+18446744073709551616^k*s.2.1.toNat=val 18446744073709551616 (a.take k)+val 18446744073709551616 (b.take k)) (λs=>a.length-s.2.2.toNat)
  (λr:List Int×Int=>r.1.length=a.length∧eG 18446744073709551616 r.1∧0≤r.2∧r.2≤1∧val 18446744073709551616 r.1+18446744073709551616^a.length*r.2.toNat=x+y)
  ⟨0,rfl,by omega,by simp,eG.replicate _ (by omega),Int.le_refl _,(by show(0:Int)≤1;omega),by simp[val]⟩ (ZR (by simp;omega)) ?_ ?_
 ·rintro⟨g,c,i⟩ ⟨k,rfl,hk,f,j,m,o,l⟩;simp only at f j m o l ⊢;by_cases t:k<a.length
  ·left;rw[eo (by omega),Ze,Zz t,Za];obtain⟨y,_,B,a1,U,O⟩:=Vj (k:=k) N (by decide);rw[O,D6 (q.get t).1 B m o,Za,Zz (by omega),Za,Zk (by omega) (by omega),Za];have w:=q.get t;refine⟨_,rfl,⟨k+1,by simp,by omega,by simp[f],?_,by simp;omega,by simp;omega,?_⟩,by simp;omega⟩
   ·exact j.set _ (by omega)
   ·simp only[tN];rw[Br (by omega),iq t,U,Nat.pow_succ];exact SY l (by omega)
  ·right;rw[eg (by omega),Zf];refine⟨_,rfl,f,j,m,o,?_⟩;have P:k=a.length:=by omega
   subst P;rw[←v,←W]
   simpa [List.take_of_length_le,f,Q] using l
 ·rintro⟨g,c⟩ ⟨f,j,m,o,l⟩;simp only at f j m o l ⊢;rw[Za];simp only;rw[←l];by_cases D:0<c
  ·have A:c=1:=by omega
   subst A;rw[eo (by omega),Ze];have R:ZE 8 (g++[(1:Int)])=some ():=by unfold ZE;rw[iP (by simp;omega)]
   rw[R,Za,Za,Sm (eG.append.2 ⟨j,eG.cons.2 ⟨by omega,eG.nil⟩⟩) (by intro x w;simp at w;omega),Za,mF,f];simp[val]
  ·have A:c=0:=by omega
   subst A;rw[eg (by omega),Zf,Za];have M:uV g:=by
    intro z C D;subst D;have I:g≠[]:=by rintro rfl;cases C
    have a0:0<g.length:=List.length_pos_iff.2 I;have Y:val 18446744073709551616 g<18446744073709551616^(a.length-1):=by
     rw[List.getLast?_eq_getElem?,List.getElem?_eq_getElem (by omega)]at C;have p:=iq (B:=18446744073709551616) (l:=g) (i:=g.length-1) (by omega);rw[Option.some.inj C]at p;have J:g.length-1+1=g.length:=by omega
     rw[J,List.take_length]at p;have E:=nr (j.take (g.length-1));rw[List.length_take,Nat.min_eq_left (by omega),f]at E;simp at p;rw[p,f];exact E
    have K:x≠0:=by
     rintro rfl;rw[←xo (by decide) q F,v,fH]at f;simp at f;exact I f
    have L:=Bi (B:=18446744073709551616) (by decide) K;rw[←v,xo (by decide) q F,v]at L;simp at l;omega
   rw[Sm j M,Za];simp
theorem mb{B:Nat}(a:2≤B)(h:n≤A):(Zc B n).length≤(Zc B A).length:=by
 apply xP a;exact Nat.lt_of_le_of_lt h (kH a A)
theorem V8(z:eK d)(x:n≤d):MF d n=some (d-n):=by
 unfold MF;have v:=mb (B:=18446744073709551616) (by decide) x;have m:=gq (B:=18446744073709551616) (by decide) d;have p:=gq (B:=18446744073709551616) (by decide) n;have C:=fQ (B:=18446744073709551616) (by decide) d;have D:=fQ (B:=18446744073709551616) (by decide) n;unfold eK at z;generalize Zc 18446744073709551616 d=a at *;generalize Zc 18446744073709551616 n=b at *;obtain⟨u,A⟩:=lZ (b:=8) (l:=(a.length:Int)) (c:=(a.length:Int)) (by omega) (by omega) (by omega) (by omega);rw[A,Za,Z6];refine gg (λs:(List Int)×Int×Int=>∃k:Nat,s.2.2=(k:Int)∧k≤a.length∧s.1.length=a.length∧eG 18446744073709551616 s.1∧0≤s.2.1∧s.2.1≤1∧
  val 18446744073709551616 (s.1.take k)+val 18446744073709551616 (b.take k)=val 18446744073709551616 (a.take k)+18446744073709551616^k*s.2.1.toNat) (λs=>a.length-s.2.2.toNat)
  (λr:List Int=>r.length=a.length∧eG 18446744073709551616 r∧val 18446744073709551616 r=d-n)
  ⟨0,rfl,by omega,by simp,eG.replicate _ (by omega),Int.le_refl _,(by show(0:Int)≤1;omega),by simp[val]⟩ (ZR (by simp;omega)) ?_ ?_
 ·rintro⟨F,c,i⟩ ⟨k,rfl,G,f,g,j,l,e⟩;simp only at f g j l e ⊢;by_cases h:k<a.length
  ·left;rw[eo (by omega),Ze,Zz h,Za];obtain⟨y,_,E,I,B,q⟩:=Vj (k:=k) p (by decide);have H:=m.get h;rw[q,UQ (m.get h).1 E j l,Za,Zz (by omega),Za,Zk (by omega) (by omega),Za];refine⟨_,rfl,⟨k+1,by simp,by omega,by simp[f],?_,by simp only;split <;> omega,by simp only;split <;> omega,?_⟩,by simp;omega⟩
   ·exact g.set _ (by omega)
   ·simp only[tN];rw[Br (by omega),iq h,B,Nat.pow_succ];refine KZ e ?_;split <;> omega
  ·right;rw[eg (by omega),Zf];refine⟨_,rfl,f,g,?_⟩;have t:k=a.length:=by omega
   subst t;simp[List.take_of_length_le,f,v,C,D]at e;have w:=nr g;rw[f]at w;have:c.toNat=0:=by
    have o:c=0∨c=1:=by omega
    rcases o with rfl |rfl
    ·rfl
    ·simp at e;omega
   rw[this]at e;omega
 ·rintro F ⟨f,g,e⟩;rw[Za];unfold gX;rw[e,Za]
theorem ZeC(h:Em d n=some A):M8 d n=some A:=by
 unfold Em at h;split at h
 ·rename_i a;rw[tx a.1 a.2,h]
 ·cases h
theorem ZuF(h:BG d n=some A):MF d n=some A:=by
 unfold BG at h;split at h
 ·rename_i a;rw[V8 a.1 a.2,h]
 ·cases h
theorem Yu(h:BH d n=some y):MR d n=some y:=by
 unfold BH at h;split at h
 ·rename_i a;rw[ZxC a.1 a.2.1 a.2.2,h]
 ·cases h
noncomputable def KL(x:Int)(y:Int):Option (Int×Int) :=
 dU (ZN .u64 x (32:Int)) λa=>
 dU (ZN .u64 y (32:Int)) λb=>
 dU (ZN .u64 (IntKind.u64.wrap ((iL .u64 x (4294967295:Int))*(iL .u64 y (4294967295:Int)))) (32:Int)) λc=>
 dU (ZN .u64 (IntKind.u64.wrap ((IntKind.u64.wrap (a*(iL .u64 y (4294967295:Int))))+c)) (32:Int)) λd=>
 dU (ZN .u64 (IntKind.u64.wrap ((iL .u64 (IntKind.u64.wrap ((IntKind.u64.wrap (a*(iL .u64 y (4294967295:Int))))+c)) (4294967295:Int))+(IntKind.u64.wrap ((iL .u64 x (4294967295:Int))*b)))) (32:Int)) λe=>
 some ((IntKind.u64.wrap ((IntKind.u64.wrap ((IntKind.u64.wrap (a*b))+d))+e),IntKind.u64.wrap (x*y)))
theorem wrap_u64(z:Int):IntKind.u64.wrap z=z%18446744073709551616:=by
 simp[IntKind.wrap,IntKind.signed,IntKind.bits]
theorem KU{x:Int}{k:Nat}(b:0≤x)(a:k≤64):ZN .u64 x (k:Int)=some (x / 2^k):=by
 unfold ZN;rw[iN (by omega)];have:min ((k:Int).toNat) IntKind.u64.bits=k:=by simp[IntKind.bits];omega
 rw[this,Int.fdiv_eq_ediv_of_nonneg];exact Int.pow_nonneg (by omega)
theorem yr(x:Nat)(h:x<18446744073709551616):iL .u64 (x:Int) 4294967295=((x%4294967296:Nat):Int):=by
 unfold iL;rw[wrap_u64];have c:(BitVec.ofInt IntKind.u64.bits (x:Int) &&& BitVec.ofInt IntKind.u64.bits 4294967295).toNat=x%4294967296:=by
  rw[BitVec.toNat_and];have a:(BitVec.ofInt IntKind.u64.bits (x:Int)).toNat=x:=by
   show(BitVec.ofInt 64 (x:Int)).toNat=x;rw[BitVec.toNat_ofInt];simp;omega
  have b:(BitVec.ofInt IntKind.u64.bits 4294967295).toNat=2^32-1:=by decide
  rw[a,b,Nat.and_two_pow_sub_one_eq_mod]
 rw[c];omega
theorem WM(g:0≤y)(i:0≤K)(p:y<18446744073709551616)(q:K<18446744073709551616):KL y K=some (y*K / 18446744073709551616,y*K%18446744073709551616):=by
 obtain⟨X,rfl⟩:=oZ g;obtain⟨Y,rfl⟩:=oZ i;obtain⟨d,c,e,f⟩:=Go.Lib.mul64_hi X Y (by omega) (by omega);have r:X / 4294967296*(Y%4294967296)≤18446744065119617025:=Go.Lib.half_mul_le (by omega) (by omega);have s:X%4294967296*(Y / 4294967296)≤18446744065119617025:=Go.Lib.half_mul_le (by omega) (by omega);have t:X / 4294967296*(Y / 4294967296)≤18446744065119617025:=Go.Lib.half_mul_le (by omega) (by omega);unfold KL;have b:∀n:Nat,ZN .u64 (n:Int) ((32:Int))=some ((n / 4294967296:Nat):Int):=λn=>by
  have:=KU (x:=(n:Int)) (k:=32) (by omega) (by omega);exact this
 have a:∀n:Nat,n<18446744073709551616→IntKind.u64.wrap (n:Int)=(n:Int):=λn h=>by rw[wrap_u64];omega
 have j:IntKind.u64.wrap ((iL .u64 (X:Int) ((4294967295:Int)))*(iL .u64 (Y:Int) ((4294967295:Int))))=((X%4294967296*(Y%4294967296):Nat):Int):=by
  rw[yr X (by omega),yr Y (by omega),←Int.natCast_mul,a _ d]
 have k:IntKind.u64.wrap (((X / 4294967296:Nat):Int)*(iL .u64 (Y:Int) ((4294967295:Int))))=((X / 4294967296*(Y%4294967296):Nat):Int):=by
  rw[yr Y (by omega),←Int.natCast_mul,a _ (by omega)]
 have l:IntKind.u64.wrap ((iL .u64 (X:Int) ((4294967295:Int)))*((Y / 4294967296:Nat):Int))=((X%4294967296*(Y / 4294967296):Nat):Int):=by
  rw[yr X (by omega),←Int.natCast_mul,a _ (by omega)]
 have m:IntKind.u64.wrap (((X / 4294967296:Nat):Int)*((Y / 4294967296:Nat):Int))=((X / 4294967296*(Y / 4294967296):Nat):Int):=by
  rw[←Int.natCast_mul,a _ (by omega)]
 rw[b,Za,b,Za,j,b,Za,k,l,m,←Int.natCast_add,a _ c,b,Za,yr _ c,←Int.natCast_add,a _ e,b,Za,←Int.natCast_add];have o:X*Y / 18446744073709551616<18446744073709551616:=by
  rw[Nat.div_lt_iff_lt_mul (by omega)];exact Nat.mul_lt_mul'' (by omega) (by omega)
 rw[a _ (by omega),←Int.natCast_add,a _ (by omega),f,wrap_u64];simp
theorem WO(h:kO y K=some α):KL y K=some α:=by
 unfold kO at h;split at h
 ·rename_i a;rw[WM a.1 a.2.1 a.2.2.1 a.2.2.2,h]
 ·cases h
noncomputable def Nr(a:Nat)(b:Nat):Option (Nat) :=
 dU (pH a) λo=>
 dV (o)
 (some b)
 (dU (pH b) λq=>
 dV (q)
 (some a)
 (dU (chk .i64 (((((Zc 18446744073709551616 a)).length:Int))+((((Zc 18446744073709551616 b)).length:Int)))) λf=>
 dU (mk 8 f f) λE=>
 dU (dU (Zg (λs:(List Int)×Int=>match s with
|(g,c)=>
 (dV (decide (c<(((Zc 18446744073709551616 a)).length:Int)))
 (dU (dX ((Zc 18446744073709551616 a)) c) λr=>
 dU (dU (Zg (λs:(List Int)×Int×Int=>match s with
|(e,h,d)=>
 (dV (decide (d<(((Zc 18446744073709551616 b)).length:Int)))
 (dU (dX ((Zc 18446744073709551616 b)) d) λt=>
 dU (kO r t) λi=>
 dU (chk .i64 (c+d)) λu=>
 dU (dX e u) λv=>
 dU (jw i.2 v (0:Int)) λj=>
 dU (jw j.1 h (0:Int)) λk=>
 dU (chk .i64 (c+d)) λl=>
 dU (dX e l) λF=>
 dU (chk .i64 (d+(1:Int))) λw=>
 some (.inl (((e.set (l).toNat k.1),IntKind.u64.wrap ((IntKind.u64.wrap (i.1+j.2))+k.2),w))))
 (some (.inr ((e,h)))))) Zh ((g,(0:Int),(0:Int))))
 (λ(p:(List Int)×Int)=>match p with
|(x,y)=>
 (some ((x,y)))))
 (λ(p:(List Int)×Int)=>match p with
|(m,z)=>
 (dU (chk .i64 (c+((((Zc 18446744073709551616 b)).length:Int)))) λn=>
 dU (dX m n) λG=>
 dU (chk .i64 (c+(1:Int))) λA=>
 some (.inl (((m.set (n).toNat z),A))))))
 (some (.inr g)))) Zh (((List.replicate (f).toNat (0:Int)),(0:Int))))
 (λ(B:(List Int))=>
 (some B)))
 (λ(C:(List Int))=>
 (dU (gX C) λD=>
 some D))))
noncomputable def JH(x:Int):Option (Int) :=
 dU (dV (decide ((4294967296:Int)≤x))
 (dU (ZN .u64 x (32:Int)) λe=>
 some ((e,(32:Int))))
 (some ((x,(0:Int)))))
 (λ(p:Int×Int)=>match p with
|(a,c)=>
 (dU (dV (decide ((65536:Int)≤a))
 (dU (ZN .u64 a (16:Int)) λf=>
 dU (chk .i64 (c+(16:Int))) λg=>
 some ((f,g)))
 (some ((a,c))))
 (λ(p:Int×Int)=>match p with
|(b,d)=>
 (dU (dV (decide ((256:Int)≤b))
 (dU (ZN .u64 b (8:Int)) λh=>
 dU (chk .i64 (d+(8:Int))) λi=>
 some ((h,i)))
 (some ((b,d))))
 (λ(p:Int×Int)=>match p with
|(j,k)=>
 (dU (dX (([0,1,2,2,3,3,3,3,4,4,4,4,4,4,4,4,5,5,5,5,5,5,5,5,5,5,5,5,5,5,5,5,6,6,6,6,6,6,6,6,6,6,6,6,6,6,6,6,6,6,6,6,6,6,6,6,6,6,6,6,6,6,6,6,7,7,7,7,7,7,7,7,7,7,7,7,7,7,7,7,7,7,7,7,7,7,7,7,7,7,7,7,7,7,7,7,7,7,7,7,7,7,7,7,7,7,7,7,7,7,7,7,7,7,7,7,7,7,7,7,7,7,7,7,7,7,7,7,8,8,8,8,8,8,8,8,8,8,8,8,8,8,8,8,8,8,8,8,8,8,8,8,8,8,8,8,8,8,8,8,8,8,8,8,8,8,8,8,8,8,8,8,8,8,8,8,8,8,8,8,8,8,8,8,8,8,8,8,8,8,8,8,8,8,8,8,8,8,8,8,8,8,8,8,8,8,8,8,8,8,8,8,8,8,8,8,8,8,8,8,8,8,8,8,8,8,8,8,8,8,8,8,8,8,8,8,8,8,8,8,8,8,8,8,8,8,8,8,8,8,8,8,8,8,8,8]:List UInt8)) (IntKind.u8.wrap j)) λl=>
 dU (chk .i64 (k+(IntKind.i64.wrap ((l.toNat:Int))))) λm=>
 some m))))))
end
end Go.Eng
