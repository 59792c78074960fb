/- Lemmas towards the statement: the engine of the walks, the functions' models, laws and walks, part 1. Conditions: as each states. -/
import Derived.Deep.Slices
import Derived.Laws.BytesArg
import Derived.Laws.Concat
import Derived.Laws.Externs
import Derived.Laws.Strings3
import Derived.Laws.StructEq
import Derived.Lib.Mul64
import Derived.OpenShut
import Derived.ProofKit
import Derived.StillTail
import Derived.WalkKit
set_option linter.all false
set_option maxRecDepth 100000
namespace Go.Eng
theorem dFq {p : Prop} [Decidable p] (h : ¬p) : decide p = false := decide_eq_false h
theorem dT {p : Prop} [Decidable p] (h : p) : decide p = true := decide_eq_true h
theorem iP {c : Prop} {h : Decidable c} (k : c) {α : Sort _} {t e : α} : ite c t e = t := if_pos k
theorem iN {c : Prop} {h : Decidable c} (k : ¬c) {α : Sort _} {t e : α} : ite c t e = e := if_neg k
theorem oZ {a : Int} (h : 0 ≤ a) : ∃ n : Nat, a = n := Int.eq_ofNat_of_zero_le h
theorem mG {α : Type _} {l : List α} {i : Nat} {a : α} (e : l[i]? = some a) : a ∈ l := List.mem_of_getElem? e
theorem mR {m n : Nat} (k : Nat) (h : m ≤ n) : m * k ≤ n * k := Nat.mul_le_mul_right k h
theorem lB {n m : Nat} (h : Nat.ble n m = true) : n ≤ m := Nat.le_of_ble_eq_true h
theorem aAq {α : Type _} (a b c : List α) : a ++ b ++ c = a ++ (b ++ c) := List.append_assoc a b c
theorem lA {α : Type _} {a b : List α} : (a ++ b).length = a.length + b.length := List.length_append
theorem tN (n : Nat) : (n : Int).toNat = n := Int.toNat_natCast n
theorem eQ {n m : Nat} (h : Nat.beq n m = true) : n = m := Nat.eq_of_beq_eq_true h
end Go.Eng
namespace Go.Eng
open Go.RowKit
def Za:=Nat→Option Obj
def Za.le (v v':Za):Prop:=∀ b o,v b=some o→v' b=some o
theorem Za.le_refl (v:Za):v.le v:=λ_ _ h=>h
theorem Za.le_trans {a b c:Za} (h:a.le b) (k:b.le c):a.le c:=λx o e=>k x o (h x o e)
def VIn (v:Za) (w:World):Prop:=∀ b o,v b=some o→w.heap[b]? = some o
theorem VIn.lt {v:Za} {w:World} (h:VIn v w) {b:Nat} {o:Obj} (e:v b=some o):b<w.heap.size:=by
 have:=h b o e;rcases Nat.lt_or_ge b w.heap.size with h' | h'
 ·exact h'
 ·simp[Array.getElem?_eq_none h']at this
theorem VIn.none {v:Za} {w:World} (h:VIn v w) {b:Nat} (e:w.heap.size≤b):v b=none:=by
 cases hv:v b with
 | none=>rfl
 | some o=>have:=h.lt hv;omega
def Ext (w w':World):Prop:=Below w.heap.size w w'
theorem Ext.refl (w:World):Ext w w:=Below.refl _ _
theorem Ext.trans {a b c:World} (h:Ext a b) (k:Ext b c):Ext a c:=Below.trans h (Below.mono k h.size)
theorem Ext.size {a b:World} (h:Ext a b):a.heap.size≤b.heap.size:=Below.size h
theorem Ext.get {a b:World} (h:Ext a b) {k:Nat} {o:Obj} (e:a.heap[k]? = some o):b.heap[k]? = some o:=by
 have hk:k<a.heap.size:=by
  rcases Nat.lt_or_ge k a.heap.size with h' | h'
  ·exact h'
  ·simp[Array.getElem?_eq_none h']at e
 rw[Below.block h k hk];exact e
theorem Ext.alloc (w:World) (o:Obj):Ext w (w.alloc o):=Below.alloc (Below.refl _ _) (Nat.le_refl _) o
theorem Ext.drew (w:World):Ext w w.drew:=Below.drew (Below.refl _ _)
structure VStep (w:World) (v:Za) (w':World) (v':Za):Prop where
 le:v.le v'
 vin:VIn v' w'
 old:∀ b,b<w.heap.size→v' b=v b
theorem VStep.refl {w:World} {v:Za} (h:VIn v w):VStep w v w v:=⟨Za.le_refl _,h,λ_ _=>rfl⟩
theorem VStep.trans {a b c:World} {x y z:Za} (hs:a.heap.size≤b.heap.size) (h:VStep a x b y) (k:VStep b y c z):VStep a x c z :=
 ⟨Za.le_trans h.le k.le,k.vin,λn hn=>(k.old n (by omega)).trans (h.old n hn)⟩
theorem VStep.ext {w w':World} {v:Za} (h:VIn v w) (k:Ext w w'):VStep w v w' v:=⟨Za.le_refl _,λb o e=>k.get (h b o e),λ_ _=>rfl⟩
structure Base where
 wd:World
 lent:List Nat
instance:Coe World Base:=⟨λw=>⟨w,[]⟩⟩
structure ExtB (z:Base) (w:World):Prop where
 os:w.os=z.wd.os
 tape:w.tape=z.wd.tape
 output:w.output=z.wd.output
 size:z.wd.heap.size≤w.heap.size
 block:∀ k,k<z.wd.heap.size→k ∉ z.lent→w.heap[k]? = z.wd.heap[k]?
theorem ExtB.refl (z:Base):ExtB z z.wd:=⟨rfl,rfl,rfl,Nat.le_refl _,λ_ _ _=>rfl⟩
theorem ExtB.trans {z:Base} {b c:World} (h:ExtB z b) (k:Ext b c):ExtB z c :=
 ⟨k.os.trans h.os,k.tape.trans h.tape,k.output.trans h.output,Nat.le_trans h.size k.size,λi hi hn=>(k.block i (Nat.lt_of_lt_of_le hi h.size)).trans (h.block i hi hn)⟩
theorem ExtB.ext {w0 w:World} (h:ExtB (w0:Base) w):Ext w0 w:=⟨h.os,h.tape,h.output,h.size,λk hk=>h.block k hk (by simp)⟩
structure VStepB (z:Base) (v:Za) (w':World) (v':Za):Prop where
 le:v.le v'
 vin:VIn v' w'
 old:∀ b,b<z.wd.heap.size→b ∉ z.lent→v' b=v b
theorem VStepB.trans {z:Base} {b c:World} {x y q:Za} (hs:z.wd.heap.size≤b.heap.size) (h:VStepB z x b y) (k:VStep b y c q):VStepB z x c q :=
 ⟨Za.le_trans h.le k.le,k.vin,λn hn hm=>(k.old n (by omega)).trans (h.old n hn hm)⟩
theorem VStepB.ext {w0 w:World} {v0 v:Za} (h:VStepB (w0:Base) v0 w v):VStep w0 v0 w v:=⟨h.le,h.vin,λk hk=>h.old k hk (by simp)⟩
def Ret (P:Program) (f:FuncId) (args:Array Value) (w:World) (v:Za) (R:Value→Za→Prop):Prop :=
 Calls P f args w λe w'=>∃ r v',e = .returned r∧Ext w w'∧VStep w v w' v'∧R r v'
theorem Ret.mono {P:Program} {f:FuncId} {args:Array Value} {w:World} {v:Za} {R R':Value→Za→Prop} (h:Ret P f args w v R) (k:∀ r v',v.le v'→R r v'→R' r v'):Ret P f args w v R' :=
 Calls.mono h λ_ _ ⟨r,v',e,x,s,q⟩=>⟨r,v',e,x,s,k r v' s.le q⟩
def plain:Value→Bool
 | .agg _ | .tuple _=>false
 | _=>true
def look:List (Nat×Value)→Nat→Option Value
 | [],_=>none
 | (k,x) :: r,t=>bif Nat.beq k t then some x else look r t
theorem ZRd {k:Nat} {x:Value} {r:List (Nat×Value)} {t:Nat} (h:k=t):look ((k,x) :: r) t=some x:=by
 subst h;simp[look]
theorem Z5e {k:Nat} {x:Value} {r:List (Nat×Value)} {t:Nat} (h:k≠t):look ((k,x) :: r) t=look r t:=by
 have hb:Nat.beq k t=false:=by
  cases hb:Nat.beq k t with
  | false=>rfl
  | true=>exact absurd (eQ hb) h
 simp[look,hb]
def ev (σ:List (Nat×Value)):Operand→Option Value
 | .tmp t=>look σ t
 | .const c=>some c
 | .global g=>some (.pointer (some ⟨g,0,none⟩))
 | .func f=>some (.func (.func f) #[] #[])
inductive Loc where
 | box (b:Nat) (T:TypeId) (cs:List Value)
 | own (b:Option Nat) (T:TypeId) (sz n cap:Nat) (cs:List Value)
def Loc.blk:Loc→Option Nat
 | .box b _ _=>some b
 | .own b _ _ _ _ _=>b
def Loc.holds (w:World):Loc→Prop
 | .box b T cs=>w.heap[b]? = some (.cells cs.toArray T (0,0))
 | .own none _ _ n cap cs=>n=0∧cap=0∧cs=[]
 | .own (some b) T sz n cap cs=>cs.length=n*sz∧∃ cur:Array Value,w.heap[b]? = some (.cells cur T (0,0))∧n≤cap∧cap≤maxLen∧cur.size=cap*sz∧cur.toList.take (n*sz)=cs
theorem Loc.holds_ext {w w':World} (h:Ext w w') {e:Loc} (k:e.holds w):e.holds w':=by
 cases e with
 | box b T cs=>exact h.get k
 | own b T sz n cap cs =>
  cases b with
  | none=>exact k
  | some b=>obtain⟨h1,c,h2,h3⟩:=k;exact⟨h1,c,h.get h2,h3⟩
theorem Loc.blk_get {w:World} {e:Loc} (k:e.holds w) {b:Nat} (hb:e.blk=some b):∃ c T,w.heap[b]? = some (.cells c T (0,0)):=by
 cases e with
 | box b' T cs=>cases hb;exact⟨_,_,k⟩
 | own b' T sz n cap cs=>cases hb;obtain⟨_,c,h2,_⟩:=k;exact⟨_,_,h2⟩
theorem Z1b {w:World} {b:Nat} {o:Obj} (h:w.heap[b]? = some o):b<w.heap.size:=by
 rcases Nat.lt_or_ge b w.heap.size with h' | h'
 ·exact h'
 ·simp[Array.getElem?_eq_none h']at h
structure St (K:Nat) (w0:Base) (v0:Za) (σ:List (Nat×Value)) (ℓ:List Loc) (v:Za) (a:Act) (w:World):Prop where
 size:a.tmps.size=K
 dfr:a.defers=[]
 fr:∀ t x,look σ t=some x→a.tmps.getD t undef=x
 ext:ExtB w0 w
 vst:VStepB w0 v0 w v
 loc:∀ e ∈ ℓ,e.holds w∧∀ b,e.blk=some b→(w0.wd.heap.size≤b∨b ∈ w0.lent)∧v b=none
 nd:(ℓ.filterMap Loc.blk).Nodup
section
variable {K:Nat} {w0:Base} {v0:Za} {σ:List (Nat×Value)} {ℓ:List Loc} {v:Za} {a:Act} {w:World}
theorem St.eval (h:St K w0 v0 σ ℓ v a w) {x:Operand} {y:Value} (e:ev σ x=some y):a.eval x=y:=by
 cases x with
 | tmp t=>exact h.fr t y e
 | const c=>exact Option.some.inj e
 | global g=>exact Option.some.inj e
 | func f=>exact Option.some.inj e
theorem St.put (h:St K w0 v0 σ ℓ v a w) {d:Nat} (x:Value) (hd:d<K):St K w0 v0 ((d,x) :: σ) ℓ v (a.put (some d) x) w:=by
 refine⟨by simp[Act.put,h.size],by simp[Act.put,h.dfr],λt y e=>?_,h.ext,h.vst,h.loc,h.nd⟩;by_cases ht:d=t
 ·subst ht;rw[ZRd rfl]at e
  cases e
  simp[Act.put,h.size,hd]
 ·rw[Z5e ht]at e;have:=h.fr t y e
  simpa [Act.put,Array.getElem?_setIfInBounds_ne ht] using this
theorem St.frame {σ':List (Nat×Value)} (h:St K w0 v0 σ ℓ v a w) (k:∀ t x,look σ' t=some x→look σ t=some x):St K w0 v0 σ' ℓ v a w :=
 ⟨h.size,h.dfr,λt x e=>h.fr t x (k t x e),h.ext,h.vst,h.loc,h.nd⟩
theorem Zrr {σ:List (Nat×Value)}:∀ t x,look [] t=some x→look σ t=some x:=λ_ _ h=>by cases h
theorem St.learn {t:Nat} {x:Value} (h:St K w0 v0 σ ℓ v a w) (e:a.tmps.getD t undef=x):St K w0 v0 ((t,x) :: σ) ℓ v a w :=
 ⟨h.size,h.dfr,λu y k=>by
  by_cases ht:t=u
  ·subst ht;rw[ZRd rfl]at k;cases k;exact e
  ·rw[Z5e ht]at k;exact h.fr u y k,h.ext,h.vst,h.loc,h.nd⟩
theorem St.vin (h:St K w0 v0 σ ℓ v a w):VIn v w:=h.vst.vin
theorem St.step {w':World} {v':Za} (h:St K w0 v0 σ ℓ v a w) (x:Ext w w') (s:VStep w v w' v'):St K w0 v0 σ ℓ v' a w' :=
 ⟨h.size,h.dfr,h.fr,h.ext.trans x,VStepB.trans h.ext.size h.vst s,λe he=>by
  obtain⟨h1,h2⟩:=h.loc e he
  refine⟨Loc.holds_ext x h1,λb hb=>?_⟩
  obtain⟨h3,h4⟩:=h2 b hb
  obtain⟨c,T,hg⟩:=Loc.blk_get h1 hb
  exact⟨h3,by rw[s.old b (Z1b hg)];exact h4⟩,h.nd⟩
theorem St.newLoc (h:St K w0 v0 σ ℓ v a w) (o:Obj) {e:Loc} (hb:e.blk=some w.heap.size) (hh:e.holds (w.alloc o)):St K w0 v0 σ (e :: ℓ) v a (w.alloc o):=by
 have h':=h.step (Ext.alloc w o) (VStep.ext h.vin (Ext.alloc w o));refine⟨h'.size,h'.dfr,h'.fr,h'.ext,h'.vst,λx hx=>?_,?_⟩
 ·rcases List.mem_cons.1 hx with rfl | hx
  ·refine⟨hh,λb e'=>?_⟩;rw[hb]at e';cases e';exact⟨.inl h.ext.size,h.vin.none (Nat.le_refl _)⟩
  ·exact h'.loc x hx
 ·rw[List.filterMap_cons_some hb];refine List.nodup_cons.2 ⟨λhm=>?_,h.nd⟩;obtain⟨x,hx,hxb⟩:=List.mem_filterMap.1 hm;obtain⟨c,T,hg⟩:=Loc.blk_get (h.loc x hx).1 hxb;have:=Z1b hg;omega
theorem St.drop {ℓ':List Loc} (h:St K w0 v0 σ ℓ v a w) (k:ℓ'.Sublist ℓ):St K w0 v0 σ ℓ' v a w :=
 ⟨h.size,h.dfr,h.fr,h.ext,h.vst,λe he=>h.loc e (k.subset he),(k.filterMap _).nodup h.nd⟩
theorem St.nilLoc (h:St K w0 v0 σ ℓ v a w) (T:TypeId) (sz:Nat):St K w0 v0 σ (.own none T sz 0 0 [] :: ℓ) v a w :=
 ⟨h.size,h.dfr,h.fr,h.ext,h.vst,λe he=>by
  rcases List.mem_cons.1 he with rfl | he
  ·exact⟨⟨rfl,rfl,rfl⟩,λb hb=>by cases hb⟩
  ·exact h.loc e he,by rw[List.filterMap_cons_none rfl];exact h.nd⟩
def WAt (w:World) (b off:Nat) (cs:List Value):Prop:=∃ c T fr,w.heap[b]? = some (.cells c T fr)∧(c.toList.drop off).take cs.length=cs
def At (v:Za) (b off:Nat) (cs:List Value):Prop:=∃ c T fr,v b=some (.cells c T fr)∧(c.toList.drop off).take cs.length=cs
theorem At.mono {v v':Za} {b off:Nat} {cs:List Value} (h:v.le v') (k:At v b off cs):At v' b off cs:=by
 obtain⟨c,T,fr,h1,h2⟩:=k;exact⟨c,T,fr,h _ _ h1,h2⟩
theorem St.view (h:St K w0 v0 σ ℓ v a w) {b off:Nat} {cs:List Value} (k:At v b off cs):WAt w b off cs:=by
 obtain⟨c,T,fr,h1,h2⟩:=k;exact⟨c,T,fr,h.vin _ _ h1,h2⟩
theorem St.box (h:St K w0 v0 σ ℓ v a w) {i b:Nat} {T:TypeId} {cs0:List Value} (k:ℓ[i]? = some (.box b T cs0)) (off:Nat) (cs:List Value) (e:(cs0.drop off).take cs.length=cs):WAt w b off cs :=
 ⟨_,_,_,(h.loc _ (mG k)).1,by simpa using e⟩
theorem WAt.cell {w:World} {b off:Nat} {cs:List Value} (h:WAt w b off cs) {j:Nat} {x:Value} (k:cs[j]? = some x):w.cell? ⟨b,off+j,none⟩=some x:=by
 obtain⟨c,T,fr,h1,h2⟩:=h;have hj:j<cs.length:=(List.getElem?_eq_some_iff.1 k).1;have:((c.toList.drop off).take cs.length)[j]? = some x:=by rw[h2];exact k
 rw[List.getElem?_take_of_lt hj,List.getElem?_drop]at this;simp only[World.cell?,h1,Option.isSome_none,Bool.false_eq_true,if_false]
 simpa using this
end
theorem ZYa (b off n:Nat):Addr.add ⟨b,off,none⟩ n=⟨b,off+n,none⟩:=by
 unfold Addr.add;split <;> simp_all
end Go.Eng
namespace Go.Eng
open Go.RowKit
section
variable {P:Program} {ops:Array Oper} {Q:Exit→Act→World→Prop} {a:Act} {w:World} {rest:List Oper}
end
section
variable {P:Program} {K:Nat} {w0:Base} {v0:Za} {σ:List (Nat×Value)} {ℓ:List Loc} {v:Za} {a:Act} {w:World}
variable {d:Option Nat} {ty:TypeId} {pos:String} {aft:Array Edge} {g:Option (Nat×Bool)}
theorem ZS (hS:St K w0 v0 σ ℓ v a w) {x:Operand} {y:Value} (e:ev σ x=some y):(execOp a.eval ⟨d,.move x,ty,pos,aft,g⟩).run P w = .ok (.value y) w:=by
 simp[execOp,hS.eval e]
theorem ZTd (hS:St K w0 v0 σ ℓ v a w) {x:Operand} {y:Value} (e:ev σ x=some y):(execOp a.eval ⟨d,.assign x,ty,pos,aft,g⟩).run P w = .ok (.value y) w:=by
 simp[execOp,hS.eval e]
theorem ZKa (hS:St K w0 v0 σ ℓ v a w) {x:Operand} {vs:Array Value} {i:Nat} {y:Value} (e:ev σ x=some (.tuple vs)) (h:vs[i]? = some y) :
  (execOp a.eval ⟨d,.extract x i,ty,pos,aft,g⟩).run P w = .ok (.value y) w:=by
 simp[execOp,hS.eval e,Instr.extract,h]
theorem Zbe (hS:St K w0 v0 σ ℓ v a w) {c x y:Operand} {b:Bool} {z:Value} (e:ev σ c=some (.bool b)) (h:(if b then ev σ x else ev σ y)=some z) :
  (execOp a.eval ⟨d,.pick c x y,ty,pos,aft,g⟩).run P w = .ok (.value z) w:=by
 cases b with
 | true=>simp only[if_true]at h;simp[execOp,hS.eval e,hS.eval h,asBool]
 | false=>simp only[Bool.false_eq_true,if_false]at h;simp[execOp,hS.eval e,hS.eval h,asBool]
structure Sized (P:Program) (t:TypeId) (n:Nat) (agg:Bool):Prop where
 size:∀ w,(sizeOf t).run P w = .ok n w
 agg:∀ w,(isAgg t).run P w = .ok agg w
theorem Znj {t:TypeId} {z:Value} (hz:∀ w,(zeroValue t).run P w = .ok z w) :
  (execOp a.eval ⟨d,.alloc t,ty,pos,aft,g⟩).run P w = .ok (.value (.pointer (some ⟨w.heap.size,0,none⟩))) (w.alloc (.cells z.cells t)):=by
 simp[execOp,Instr.alloc,hz,newVar,newRow]
theorem ZUo (hS:St K w0 v0 σ ℓ v a w) {t:TypeId} {x:Operand} {y:Value} (e:ev σ x=some y) :
  (execOp a.eval ⟨d,.box t x,ty,pos,aft,g⟩).run P w = .ok (.value (.pointer (some ⟨w.heap.size,0,none⟩))) (w.alloc (.cells y.cells t)):=by
 simp[execOp,Instr.box,hS.eval e,newVar,newRow]
theorem Zum {t:TypeId} {n b off:Nat} {cs:List Value} (ht:Sized P t n true) (hn:cs.length=n) (hc:WAt w b off cs) :
  (loadVar t ⟨b,off,none⟩).run P w = .ok (.agg cs.toArray) w:=by
 have:=run_loadCells_list (P:=P) w ⟨b,off,none⟩ cs (λj x h=>by rw[ZYa];exact hc.cell h);rw[hn]at this;simp[loadVar,ht.agg,ht.size,this]
theorem ZEm {t:TypeId} {n b off:Nat} {x:Value} (ht:Sized P t n false) (hc:WAt w b off [x]) :
  (loadVar t ⟨b,off,none⟩).run P w = .ok x w:=by
 have:=hc.cell (j:=0) (x:=x) rfl;simp only[Nat.add_zero]at this;simp[loadVar,ht.agg,this]
theorem ZGo (hS:St K w0 v0 σ ℓ v a w) {t:TypeId} {x:Operand} {n b off:Nat} {cs:List Value} (e:ev σ x=some (.pointer (some ⟨b,off,none⟩))) (ht:Sized P t n true) (hn:cs.length=n)
  (hc:WAt w b off cs):(execOp a.eval ⟨d,.load t x,ty,pos,aft,g⟩).run P w = .ok (.value (.agg cs.toArray)) w:=by
 simp[execOp,Instr.loadAt,Instr.sureAddr,hS.eval e,Zum ht hn hc]
theorem ZQa (hS:St K w0 v0 σ ℓ v a w) {t:TypeId} {x:Operand} {n b off:Nat} {y:Value} (e:ev σ x=some (.pointer (some ⟨b,off,none⟩))) (ht:Sized P t n false)
  (hc:WAt w b off [y]):(execOp a.eval ⟨d,.load t x,ty,pos,aft,g⟩).run P w = .ok (.value y) w:=by
 simp[execOp,Instr.loadAt,Instr.sureAddr,hS.eval e,ZEm ht hc]
def Zvm (P:Program) (s:TypeId) (f off:Nat):Prop:=∀ (b o:Nat) (w:World),(Instr.fieldAt s (.pointer (some ⟨b,o,none⟩)) f).run P w = .ok (.pointer (some ⟨b,o+off,none⟩)) w
theorem ZPt (hS:St K w0 v0 σ ℓ v a w) {s:TypeId} {x:Operand} {f off b o:Nat} (e:ev σ x=some (.pointer (some ⟨b,o,none⟩))) (ht:Zvm P s f off) :
  (execOp a.eval ⟨d,.fieldAddr s x f,ty,pos,aft,g⟩).run P w = .ok (.value (.pointer (some ⟨b,o+off,none⟩))) w:=by
 simp[execOp,hS.eval e,ht b o w]
theorem Zpq (hS:St K w0 v0 σ ℓ v a w) {s:TypeId} {x:Operand} {f:Nat} {y z:Value} (e:ev σ x=some y) (ht:(Instr.field s y f).run P w = .ok z w) :
  (execOp a.eval ⟨d,.field s x f,ty,pos,aft,g⟩).run P w = .ok (.value z) w:=by
 simp[execOp,hS.eval e,ht]
def Zsd (P:Program) (t e:TypeId) (sz:Nat):Prop:=(∀ w,(underlying t).run P w = .ok (.slice e) w)∧∀ w,(sizeOf e).run P w = .ok sz w
theorem Z2 (hS:St K w0 v0 σ ℓ v a w) {t et:TypeId} {sz:Nat} {x i:Operand} {b o n cap:Nat} {k:IntKind} {j:Int} (e:ev σ x=some (.slice (some ⟨b,o,none⟩) n cap)) (ei:ev σ i=some (.int k j))
  (ht:Zsd P t et sz) (h0:0≤j) (h1:j<n):(execOp a.eval ⟨d,.indexAddr t x i,ty,pos,aft,g⟩).run P w = .ok (.value (.pointer (some ⟨b,o+j.toNat*sz,none⟩))) w:=by
 simp[execOp,Instr.indexAt,hS.eval e,hS.eval ei,asIntOf,ht.1,ht.2,h0,h1,ZYa]
theorem Zze (hS:St K w0 v0 σ ℓ v a w) {t et:TypeId} {sz:Nat} {x:Operand} {q:Option Addr} {n cap:Nat} {ats:Array TypeId} (e:ev σ x=some (.slice q n cap)) (h:ats[0]? = some t) (ht:Zsd P t et sz) :
  (execOp a.eval ⟨d,.call ⟨.builtin .len,#[x],ats⟩,ty,pos,aft,g⟩).run P w = .ok (.value (.int .i64 n)) w:=by
 simp[execOp,resolve,invoke,builtin,Builtin.len_,hS.eval e,h,ht.1,goInt]
end
end Go.Eng
namespace Go.Eng
open Go.RowKit
section
variable {P:Program} {ops:Array Oper} {Q:Exit→Act→World→Prop}
def ZTa (P:Program) (o:Oper) (a:Act) (w:World) (J:Value→World→Prop):Prop :=
 match (execOp a.eval o).run P w with
 | .ok (.value x) w'=>J x w'
 | .ok .skip w'=>J undef w'
 | .ok (.enter f args) w'=>Calls P f args w' λe w''=>∃ r,e = .returned r∧J r w''
 | _=>False
theorem Z7e {o:Oper} {a:Act} {w w':World} {x:Value} {J:Value→World→Prop} (h:(execOp a.eval o).run P w = .ok (.value x) w') (k:J x w'):ZTa P o a w J:=by
 unfold ZTa;rw[h];exact k
theorem Zfk {o:Oper} {a:Act} {w w':World} {J:Value→World→Prop} (h:(execOp a.eval o).run P w = .ok .skip w') (k:J undef w'):ZTa P o a w J:=by
 unfold ZTa;rw[h];exact k
theorem ZXb {o:Oper} {a:Act} {w w':World} {f:FuncId} {args:Array Value} {J:Value→World→Prop} (h:(execOp a.eval o).run P w = .ok (.enter f args) w')
  (k:Calls P f args w' λe w''=>∃ r,e = .returned r∧J r w''):ZTa P o a w J:=by
 unfold ZTa;rw[h];exact k
theorem Z1i {o:Oper} {a:Act} {w:World} {J J':Value→World→Prop} (h:ZTa P o a w J) (k:∀ x w',J x w'→J' x w'):ZTa P o a w J':=by
 unfold ZTa at *;split at h
 ·exact k _ _ h
 ·exact k _ _ h
 ·exact h.mono λe w'' ⟨r,e1,e2⟩=>⟨r,e1,k _ _ e2⟩
 ·exact h
theorem Znh {o:Oper} {a r:Act} {w:World} {J:Value→World→Prop} {K:Act→World→Prop} (he:execOp r.eval o=execOp a.eval o) (h:ZTa P o a w J)
  (k:∀ x w',J x w'→K (r.put o.dst x) w'):o.wp P r w K Q:=by
 unfold Oper.wp;rw[he];unfold ZTa at h;split at h
 ·rename_i hr;rw[hr];exact k _ _ h
 ·rename_i hr;rw[hr];exact k _ _ h
 ·rename_i hr;rw[hr,Oper.upon_enter];refine h.mono ?_;rintro e w'' ⟨x,rfl,hx⟩;exact k _ _ hx
 ·exact h.elim
def Pend (P:Program) (ops:Array Oper) (o:Oper) (a:Act) (w:World):Prop :=
 ∃ d,o.dst=some d∧(Region.wanted o (yielded ops a.tmps)=true→(execOp a.eval o).run P w = .ok (.value (a.tmps.getD d undef)) w) ∧
  (Region.wanted o (yielded ops a.tmps)=false→a.tmps.getD d undef=undef)
def ZPc (ops:Array Oper) (j i:Nat):Bool:=match ops[j]? with
 | some o=>o.after.any λe=>Region.binds .any e&&e.on==i
 | none=>false
def okF (ops:Array Oper) (fl:Array Bool):Bool :=
 (fl.size==ops.size) &&
 ((List.range ops.size).all λi=>match ops[i]? with
  | some o=>(o.after.all λe=>!Region.binds .any e || decide (e.on<i))&&(match o.op with | .select _ _=>false | _=>true)
  | none=>false) &&
 ((List.range ops.size).all λg=>!fl.getD g false || match ops[g]? with
  | some o=>(match o.dst with
   | some d=>(List.range ops.size).all λj=>match ops[j]? with
    | some oj=>(!(oj.looksAt ops).contains d || ZPc ops j g)&&(j==g || oj.dst != some d)
    | none=>true
   | none=>false)
  | none=>false)
structure OkF (ops:Array Oper) (fl:Array Bool):Prop where
 back:∀ (i:Nat) (o:Oper),ops[i]? = some o→∀ e ∈ o.after,Region.binds .any e=true→e.on<i
 nosel:∀ (i:Nat) (o:Oper),ops[i]? = some o→∀ cs b,o.op≠Op.select cs b
 look:∀ (g:Nat) (o:Oper) (d:Nat),ops[g]? = some o→fl.getD g false=true→o.dst=some d→∀ (j:Nat) (oj:Oper),ops[j]? = some oj→d ∈ oj.looksAt ops→ZPc ops j g=true
 sole:∀ (g:Nat) (o:Oper) (d:Nat),ops[g]? = some o→fl.getD g false=true→o.dst=some d→∀ (j:Nat) (oj:Oper),ops[j]? = some oj→j≠g→oj.dst≠some d
 dst:∀ (g:Nat) (o:Oper),ops[g]? = some o→fl.getD g false=true→∃ d,o.dst=some d
theorem ZVt {fl:Array Bool} (h:okF ops fl=true):OkF ops fl:=by
 simp only[okF,Bool.and_eq_true,List.all_eq_true,List.mem_range]at h;obtain⟨⟨_,h1⟩,h2⟩:=h;have lt:∀ {i o},ops[i]? = some o→i<ops.size:=λe=>(Array.getElem?_eq_some_iff.1 e).1;have g1:∀ (g:Nat) (o:Oper),ops[g]? = some o→fl.getD g false=true→∃ d,o.dst=some d∧∀ (j:Nat) (oj:Oper),ops[j]? = some oj→((d ∈ oj.looksAt ops→ZPc ops j g=true)∧(j≠g→oj.dst≠some d)):=by
  intro g o hg hf;have:=h2 g (lt hg);simp only[hf,Bool.not_true,Bool.false_or,hg]at this
  cases hd:o.dst with
  | none=>simp[hd]at this
  | some d =>
   simp only[hd,List.all_eq_true,List.mem_range]at this;refine⟨d,rfl,λj oj hj=>?_⟩;have t:=this j (lt hj);simp only[hj,Bool.and_eq_true,Bool.or_eq_true,Bool.not_eq_true',beq_iff_eq,bne_iff_ne]at t;refine⟨λhm=>?_,λhne=>?_⟩
   ·rcases t.1 with t1 | t1
    ·simp at t1;exact absurd hm t1
    ·exact t1
   ·rcases t.2 with t2 | t2
    ·exact absurd t2 hne
    ·exact t2
 refine⟨λi o hi e he hb=>?_,λi o hi cs b hc=>?_,λg o d hg hf hd j oj hj hm=>?_,λg o d hg hf hd j oj hj hne=>?_,λg o hg hf=>?_⟩
 ·have:=h1 i (lt hi);simp only[hi,Bool.and_eq_true,Array.all_eq_true']at this;have t:=this.1 e he
  simpa [hb] using t
 ·have:=h1 i (lt hi);simp[hi,hc]at this
 ·obtain⟨d',e',k⟩:=g1 g o hg hf;rw[hd]at e';cases e';exact (k j oj hj).1 hm
 ·obtain⟨d',e',k⟩:=g1 g o hg hf;rw[hd]at e';cases e';exact (k j oj hj).2 hne
 ·obtain⟨d',e',_⟩:=g1 g o hg hf;exact⟨d',e'⟩
structure Sim (P:Program) (ops:Array Oper) (fl E listed:Array Bool) (a r:Act) (w:World):Prop where
 size:listed.size=ops.size
 sub:∀ j,listed.getD j false=true→E.getD j false=true
 closed:∀ (j:Nat) (o:Oper),ops[j]? = some o→listed.getD j false=true→∀ e ∈ o.after,Region.binds .any e=true→listed.getD e.on false=true
 pend:∀ (j:Nat) (o:Oper),ops[j]? = some o→E.getD j false=true→listed.getD j false=false→fl.getD j false=true∧Pend P ops o a w
 tmps:r.tmps.size=a.tmps.size
 dfr:r.defers=a.defers
 agree:∀ t,(∀ (j:Nat) (o:Oper),ops[j]? = some o→E.getD j false=true→listed.getD j false=false→o.dst≠some t)→r.tmps.getD t undef=a.tmps.getD t undef
def left (listed:Array Bool):Nat:=(listed.toList.filter (! ·)).length
def Rg (P:Program) (ops:Array Oper) (Q:Exit→Act→World→Prop) (fl E:Array Bool) (a:Act) (w:World):Prop :=
 E.size=ops.size→(∀ (j:Nat) (o:Oper),ops[j]? = some o→E.getD j false=true→∀ e ∈ o.after,Region.binds .any e=true→E.getD e.on false=true) →
 ∀ fuel listed r,left listed=fuel→Sim P ops fl E listed a r w→wpAny P .any ops Q fuel listed r w
theorem ZDg {listed:Array Bool} {i:Nat} (h:listed.getD i true=false):left (listed.setIfInBounds i true)+1=left listed:=by
 have hi:i<listed.size:=by
  rcases Nat.lt_or_ge i listed.size with h' | h'
  ·exact h'
  ·simp[Array.getElem?_eq_none h']at h
 have hv:listed.toList[i]? = some false:=by
  simp[hi]at h;simp[hi,h]
 unfold left;rw[Array.toList_setIfInBounds];generalize listed.toList=l at hv;clear h hi
 induction l generalizing i with
 | nil=>simp at hv
 | cons x l ih =>
  cases i with
  | zero=>simp at hv;subst hv;simp
  | succ i =>
   simp at hv;have:=ih hv
   cases x <;> simp at this ⊢ <;> omega
theorem Zjb {listed:Array Bool} {j:Nat} (hj:j<listed.size):listed.getD j true=listed.getD j false:=by simp[hj]
theorem Z0i {listed:Array Bool} (h:left listed=0) {j:Nat}:listed.getD j true=true:=by
 unfold left at h;have h':∀ x ∈ listed.toList,x=true:=by
  intro x hx;have:=List.filter_eq_nil_iff.1 (List.length_eq_zero_iff.1 h) x hx
  simpa using this
 rcases Nat.lt_or_ge j listed.size with hj | hj
 ·have:=h' listed[j] (by simp);simp[hj,this]
 ·simp[Array.getElem?_eq_none hj]
theorem Sim.eval {fl E listed:Array Bool} {a r:Act} {w:World} (hF:OkF ops fl) (s:Sim P ops fl E listed a r w) {i:Nat} {o:Oper} (hi:ops[i]? = some o)
  (hp:∀ e ∈ o.after,Region.binds .any e=true→listed.getD e.on false=true):execOp r.eval o=execOp a.eval o∧Region.wanted o (yielded ops r.tmps)=Region.wanted o (yielded ops a.tmps):=by
 have key:∀ t,t ∈ o.looksAt ops→r.tmps.getD t undef=a.tmps.getD t undef:=by
  intro t ht;refine s.agree t λj oj hj hE hl hd=>?_;have hf:=(s.pend j oj hj hE hl).1;have:=hF.look j oj t hj hf hd i o hi ht;simp only[ZPc,hi]at this;obtain⟨e,he,hb⟩:=Array.any_eq_true'.1 this;simp only[Bool.and_eq_true,beq_iff_eq]at hb;have:=hp e he hb.1;rw[hb.2,hl]at this;cases this
 constructor
 ·refine execOp_congr o (hF.nosel i o hi) λx hx=>?_
  cases x with
  | tmp t=>exact key t (List.mem_append_left _ (List.mem_filterMap.2 ⟨.tmp t,by simpa using hx,rfl⟩))
  | _=>rfl
 ·unfold Region.wanted
  cases hg:o.guard with
  | none=>rfl
  | some gw =>
   obtain⟨g,want⟩:=gw;have hy:yielded ops r.tmps g=yielded ops a.tmps g:=by
    unfold yielded
    cases ht:(ops[g]?).bind (·.dst) with
    | none=>rfl
    | some t =>
     have h1:=key t (by simp[Oper.looksAt,hg,ht]);simp only[Option.bind_some];rcases Nat.lt_or_ge t a.tmps.size with hlt | hge
     ·have hlt':t<r.tmps.size:=by rw[s.tmps];exact hlt
      simp[hlt,hlt']at h1;simp[hlt,hlt',h1]
     ·simp[Array.getElem?_eq_none hge,Array.getElem?_eq_none (show r.tmps.size≤t by rw[s.tmps];exact hge)]
   simp only[hy]
theorem Zqa {l:Array Bool} {i j:Nat} {b:Bool} (h:i≠j):(l.setIfInBounds i true).getD j b=l.getD j b:=getD_set_ne b h
theorem Z9a {l:Array Bool} {i:Nat} {b:Bool} (h:i<l.size):(l.setIfInBounds i true).getD i b=true:=by simp[h]
theorem ZYe {a:Act} {d t:Nat} {x:Value} (h:d≠t):(a.put (some d) x).tmps.getD t undef=a.tmps.getD t undef:=by
 simp[Act.put,Array.getElem?_setIfInBounds_ne h]
theorem ZKf {a:Act} {d:Nat} {x:Value} (h:d<a.tmps.size):(a.put (some d) x).tmps.getD d undef=x:=by
 simp[Act.put,h]
theorem Zik {a:Act} {d:Nat} {x:Value} (h:a.tmps.size≤d):(a.put (some d) x).tmps.getD d undef=undef:=by
 have:¬ d<a.tmps.size:=Nat.not_lt.2 h;simp[Act.put,this]
theorem ZSh {a:Act} {d:Option Nat} {x:Value}:(a.put d x).tmps.size=a.tmps.size:=by cases d <;> simp[Act.put]
theorem Zoh {a:Act} {d:Option Nat} {x:Value}:(a.put d x).defers=a.defers:=by cases d <;> simp[Act.put]
theorem ZQs {fl E E':Array Bool} {a:Act} {w:World} (hF:OkF ops fl) (f:Nat) {o:Oper} {d:Nat} {x:Value} (hi:ops[f]? = some o) (hfl:fl.getD f false=true) (hd:o.dst=some d) (hK:d<a.tmps.size)
  (hr:f ∈ Region.ready .any ops E) (hE':E'=E.setIfInBounds f true)
  (hx:(Region.wanted o (yielded ops a.tmps)=true∧(execOp a.eval o).run P w = .ok (.value x) w)∨(Region.wanted o (yielded ops a.tmps)=false∧x=undef))
  (h:Rg P ops Q fl E' (a.put (some d) x) w):Rg P ops Q fl E a w:=by
 subst hE';intro hsz hcl fuel listed r hfuel s;obtain⟨hun,o',ho',hall⟩:=mem_ready.1 hr;rw[hi]at ho';cases ho';have hfs:f<E.size:=by
  rcases Nat.lt_or_ge f E.size with h' | h'
  ·exact h'
  ·simp[Array.getElem?_eq_none h']at hun
 have hun':E.getD f false=false:=by rw[← Zjb hfs];exact hun
 have hlf:listed.getD f false=false:=by
  cases hl:listed.getD f false with
  | false=>rfl
  | true=>rw[s.sub f hl]at hun';cases hun'
 have notlook:∀ (j:Nat) (oj:Oper),ops[j]? = some oj→(∀ e ∈ oj.after,Region.binds .any e=true→E.getD e.on false=true)→d ∉ oj.looksAt ops:=by
  intro j oj hj hc hm;have:=hF.look f o d hi hfl hd j oj hj hm;simp only[ZPc,hj]at this;obtain⟨e,he,hb⟩:=Array.any_eq_true'.1 this;simp only[Bool.and_eq_true,beq_iff_eq]at hb;have:=hc e he hb.1;rw[hb.2,hun']at this;cases this
 refine h (by simp[hsz]) (λj oj hj hEj e he hb=>?_) fuel listed r hfuel ?_
 ·by_cases hjf:f=j
  ·subst hjf;rw[hi]at hj;cases hj;have:=hall e he hb;by_cases hef:f=e.on
   ·rw[← hef];exact Z9a hfs
   ·rw[Zqa hef];exact this
  ·rw[Zqa hjf]at hEj;have:=hcl j oj hj hEj e he hb;by_cases hef:f=e.on
   ·rw[← hef];exact Z9a hfs
   ·rw[Zqa hef];exact this
 ·refine⟨s.size,λj hj=>?_,s.closed,λj oj hj hEj hl=>?_,by rw[ZSh];exact s.tmps,by rw[Zoh];exact s.dfr,λt ht=>?_⟩
  ·by_cases hjf:f=j
   ·subst hjf;exact Z9a hfs
   ·rw[Zqa hjf];exact s.sub j hj
  ·by_cases hjf:f=j
   ·subst hjf;rw[hi]at hj;cases hj;have hn:=notlook f o hi hall;have he:=execOp_put o (hF.nosel f o hi) a (some d) x (ops:=ops) (λd' hd'=>by cases hd';exact hn);have hw:=wanted_put (ops:=ops) o a (some d) x (λd' hd'=>by cases hd';exact hn);refine⟨hfl,d,hd,?_,?_⟩
    ·rw[hw,he,ZKf hK];intro hwt;rcases hx with hx | hx
     ·exact hx.2
     ·rw[hx.1]at hwt;cases hwt
    ·rw[hw,ZKf hK];intro hwt;rcases hx with hx | hx
     ·rw[hx.1]at hwt;cases hwt
     ·exact hx.2
   ·rw[Zqa hjf]at hEj;obtain⟨hfj,dj,hdj,k1,k2⟩:=s.pend j oj hj hEj hl;have hn:=notlook j oj hj (hcl j oj hj hEj);have he:=execOp_put oj (hF.nosel j oj hj) a (some d) x (ops:=ops) (λd' hd'=>by cases hd';exact hn);have hw:=wanted_put (ops:=ops) oj a (some d) x (λd' hd'=>by cases hd';exact hn);have hne:d≠dj:=λe=>hF.sole f o d hi hfl hd j oj hj (λe=>hjf e.symm) (e ▸ hdj);exact⟨hfj,dj,hdj,by rw[hw,he,ZYe hne];exact k1,by rw[hw,ZYe hne];exact k2⟩
  ·have hne:d≠t:=λe=>ht f o hi (Z9a hfs) hlf (e ▸ hd);rw[ZYe hne];refine s.agree t λj oj hj hEj hl=>ht j oj hj ?_ hl;by_cases hjf:f=j
   ·subst hjf;exact Z9a hfs
   ·rw[Zqa hjf];exact hEj
theorem Z5c {i:Nat} {o:Oper} (h:ops[i]? = some o):i<ops.size:=(Array.getElem?_eq_some_iff.1 h).1
theorem ZRo {fl:Array Bool} (hF:OkF ops fl) {listed:Array Bool} (hs:listed.size=ops.size):∀ (n j:Nat),j<n→j<ops.size→listed.getD j true=false→Region.ready .any ops listed≠[]
 | 0,j,h,_,_=>by omega
 | n+1,j,h,hj,hl=>by
  intro h0
  by_cases hp:∃ e ∈ (ops[j]).after,Region.binds .any e=true∧listed.getD e.on false=false
  ·obtain⟨e,he,hb,hn⟩:=hp
   have hlt:=hF.back j ops[j] (by simp[hj]) e he hb
   refine ZRo hF hs n e.on (by omega) (by omega) ?_ h0
   rw[Zjb (by omega)];exact hn
  ·have:j ∈ Region.ready .any ops listed:=mem_ready.2 ⟨hl,ops[j],by simp[hj],λe he hb=>by
    cases hx:listed.getD e.on false with
    | true=>rfl
    | false=>exact absurd ⟨e,he,hb,hx⟩ hp⟩
   rw[h0]at this;cases this
theorem Zxk {listed:Array Bool} (h:left listed≠0):∃ j,j<listed.size∧listed.getD j true=false:=by
 unfold left at h;obtain⟨x,hx⟩:=List.exists_mem_of_length_pos (Nat.pos_of_ne_zero h);obtain⟨hm,hv⟩:=List.mem_filter.1 hx;obtain⟨j,hj⟩:=List.getElem?_of_mem hm;have hlt:j<listed.size:=by
  have:=(List.getElem?_eq_some_iff.1 hj).1
  simpa using this
 refine⟨j,hlt,?_⟩
 cases x
 ·have h1:listed.toList[j]? = some listed[j]:=by simp[hlt]
  rw[h1]at hj;have h2:=Option.some.inj hj;simp[hlt,h2]
 ·simp at hv
def Zzd (ops:Array Oper) (p:Nat):List Nat→List Nat→Bool
 | _,[]=>true
 | seen,g :: r=>(ZPc ops p g || seen.any λh=>ZPc ops h g)&&Zzd ops p (g :: seen) r
theorem Zao {p:Nat} {o:Oper} {listed:Array Bool} (hp:ops[p]? = some o) (hall:∀ e ∈ o.after,Region.binds .any e=true→listed.getD e.on false=true)
  (hc:∀ (j:Nat) (o:Oper),ops[j]? = some o→listed.getD j false=true→∀ e ∈ o.after,Region.binds .any e=true→listed.getD e.on false=true) :
  ∀ (l seen:List Nat),Zzd ops p seen l=true→(∀ g ∈ seen,listed.getD g false=true)→∀ g ∈ l,listed.getD g false=true
 | [],_,_,_,g,hg=>by cases hg
 | x :: l,seen,h,hs,g,hg=>by
  simp only[Zzd,Bool.and_eq_true,Bool.or_eq_true]at h
  have hx:listed.getD x false=true:=by
   rcases h.1 with h1 | h1
   ·simp only[ZPc,hp]at h1;obtain⟨e,he,hb⟩:=Array.any_eq_true'.1 h1;simp only[Bool.and_eq_true,beq_iff_eq]at hb;rw[← hb.2];exact hall e he hb.1
   ·obtain⟨y,hy,h1⟩:=List.any_eq_true.1 h1;unfold ZPc at h1;split at h1
    ·rename_i oy hoy;obtain⟨e,he,hb⟩:=Array.any_eq_true'.1 h1;simp only[Bool.and_eq_true,beq_iff_eq]at hb;rw[← hb.2];exact hc y oy hoy (hs y hy) e he hb.1
    ·cases h1
  rcases List.mem_cons.1 hg with rfl | hg
  ·exact hx
  ·exact Zao hp hall hc l (x :: seen) h.2 (λz hz=>by
    rcases List.mem_cons.1 hz with rfl | hz
    ·exact hx
    ·exact hs z hz) g hg
def Next (P:Program) (ops:Array Oper) (Q:Exit→Act→World→Prop) (fl E:Array Bool) (a:Act) (w:World) (p:Nat):Prop :=
  ∃ (o:Oper) (A J:List Nat),ops[p]? = some o∧Zzd ops p [] A=true∧((List.range ops.size).all λj=>!(E.getD j false&&fl.getD j false) || A.contains j || J.contains j)=true ∧
    (if Region.wanted o (yielded ops a.tmps) then ZTa P o a w (λx w'=>(∀ j ∈ J,∀ oj,ops[j]? = some oj→Pend P ops oj (a.put o.dst x) w')∧Rg P ops Q fl (E.setIfInBounds p true) (a.put o.dst x) w')
     else (∀ j ∈ J,∀ oj,ops[j]? = some oj→Pend P ops oj (a.put o.dst undef) w)∧Rg P ops Q fl (E.setIfInBounds p true) (a.put o.dst undef) w)
theorem Zil {fl E:Array Bool} {a:Act} {w:World} (hF:OkF ops fl) (hend:Region.ready .any ops E=[]→Q .normal a w) (h:∀ p ∈ Region.ready .any ops E,Next P ops Q fl E a w p):Rg P ops Q fl E a w:=by
 intro hsz hcl fuel
 induction fuel with
 | zero =>
  intro listed r hfuel s;have hall:∀ j,listed.getD j true=true:=λj=>Z0i hfuel;have hallf:∀ j o,ops[j]? = some o→listed.getD j false=true:=λj o hj=>by
   rw[← Zjb (by rw[s.size];exact Z5c hj)];exact hall j
  have hra:r=a:=by
   have ht:r.tmps=a.tmps:=by
    refine Array.ext s.tmps λi h1 h2=>?_;have:=s.agree i (λj o hj _ hl=>by rw[hallf j o hj]at hl;cases hl)
    simpa [h1,h2] using this
   have hd:=s.dfr
   cases r;cases a;simp_all
  subst hra;have hE0:Region.ready .any ops E=[]:=by
   cases hx:Region.ready .any ops E with
   | nil=>rfl
   | cons p l =>
    obtain⟨hun,o,ho,_⟩:=mem_ready.1 (show p ∈ Region.ready .any ops E by rw[hx];simp);have:=s.sub p (hallf p o ho);rw[Zjb (by rw[hsz];exact Z5c ho),this]at hun
    cases hun
  refine⟨?_,hend hE0⟩
  cases hx:Region.ready .any ops listed with
  | nil=>rfl
  | cons p l =>
   obtain⟨hun,_⟩:=mem_ready.1 (show p ∈ Region.ready .any ops listed by rw[hx];simp);rw[hall p]at hun;cases hun
 | succ fuel ih =>
  intro listed r hfuel s;refine⟨λh0=>?_,λi hi=>?_⟩
  ·obtain⟨j,hj,hl⟩:=Zxk (show left listed≠0 by omega);exact absurd h0 (ZRo hF s.size (j+1) j (by omega) (by rw[← s.size];exact hj) hl)
  ·obtain⟨hun,o,ho,hall⟩:=mem_ready.1 hi;have his:i<listed.size:=by rw[s.size];exact Z5c ho
   have hunf:listed.getD i false=false:=by rw[← Zjb his];exact hun
   have hiE:i<E.size:=by rw[hsz];exact Z5c ho
   obtain⟨hev,hwd⟩:=s.eval hF ho hall;have hfuel':left (listed.setIfInBounds i true)=fuel:=by have:=ZDg hun;omega
   have hclosed:∀ (j:Nat) (oj:Oper),ops[j]? = some oj→(listed.setIfInBounds i true).getD j false=true→∀ e ∈ oj.after,Region.binds .any e=true→(listed.setIfInBounds i true).getD e.on false=true:=by
    intro j oj hj hlj e he hb;have:listed.getD e.on false=true:=by
     by_cases hij:i=j
     ·subst hij;rw[ho]at hj;cases hj;exact hall e he hb
     ·rw[Zqa hij]at hlj;exact s.closed j oj hj hlj e he hb
    by_cases hie:i=e.on
    ·rw[← hie];exact Z9a his
    ·rw[Zqa hie];exact this
   unfold wpOp;simp only[ho];rw[hwd];by_cases hEi:E.getD i false=true
   ·obtain⟨hfi,d,hd,k1,k2⟩:=s.pend i o ho hEi hunf;have next:wpAny P .any ops Q fuel (listed.setIfInBounds i true) (r.put (some d) (a.tmps.getD d undef)) w:=by
     refine ih _ _ hfuel' ⟨by simp[s.size],λj hj=>?_,hclosed,λj oj hj hEj hl=>?_,by rw[ZSh];exact s.tmps,by rw[Zoh];exact s.dfr,λt ht=>?_⟩
     ·by_cases hij:i=j
      ·subst hij;exact hEi
      ·rw[Zqa hij]at hj;exact s.sub j hj
     ·by_cases hij:i=j
      ·subst hij;rw[Z9a his]at hl;cases hl
      ·rw[Zqa hij]at hl;exact s.pend j oj hj hEj hl
     ·by_cases hdt:d=t
      ·subst hdt;rcases Nat.lt_or_ge d r.tmps.size with h1 | h1
       ·rw[ZKf h1]
       ·have h2:a.tmps.size≤d:=by rw[← s.tmps];exact h1
        rw[Zik h1];simp[Array.getElem?_eq_none h2]
      ·rw[ZYe hdt];refine s.agree t λj oj hj hEj hl=>?_;by_cases hij:i=j
       ·subst hij;rw[ho]at hj;cases hj;rw[hd];exact λe=>hdt (Option.some.inj e)
       ·exact ht j oj hj hEj (by rw[Zqa hij];exact hl)
    by_cases hw:Region.wanted o (yielded ops a.tmps)=true
    ·rw[iP hw];refine .inl ?_;unfold Oper.wp;rw[hev,k1 hw,Oper.upon_value,hd];exact next
    ·rw[iN hw,hd];rw[k2 (by simpa using hw)]at next;exact next
   ·have hEif:E.getD i false=false:=by simpa using hEi
    have hready:i ∈ Region.ready .any ops E:=mem_ready.2 ⟨by rw[Zjb hiE];exact hEif,o,ho,λe he hb=>s.sub _ (hall e he hb)⟩;obtain⟨o',A,J,ho',hA,hAJ,hstep⟩:=h i hready;rw[ho]at ho';cases ho';have hAl:=Zao ho hall s.closed A [] hA (λg hg=>by cases hg);have sim:∀ (x:Value) (w':World),(∀ j ∈ J,∀ oj,ops[j]? = some oj→Pend P ops oj (a.put o.dst x) w')→Rg P ops Q fl (E.setIfInBounds i true) (a.put o.dst x) w' →
      wpAny P .any ops Q fuel (listed.setIfInBounds i true) (r.put o.dst x) w':=by
     intro x w' hJ hRg;have hEclosed:∀ (j:Nat) (oj:Oper),ops[j]? = some oj→(E.setIfInBounds i true).getD j false=true→∀ e ∈ oj.after,Region.binds .any e=true→(E.setIfInBounds i true).getD e.on false=true:=by
      intro j oj hj hlj e he hb;have:E.getD e.on false=true:=by
       by_cases hij:i=j
       ·subst hij;rw[ho]at hj;cases hj;exact s.sub _ (hall e he hb)
       ·rw[Zqa hij]at hlj;exact hcl j oj hj hlj e he hb
      by_cases hie:i=e.on
      ·rw[← hie];exact Z9a hiE
      ·rw[Zqa hie];exact this
     refine hRg (by simp[hsz]) hEclosed fuel _ _ hfuel' ⟨by simp[s.size],λj hj=>?_,hclosed,λj oj hj hEj hl=>?_,by rw[ZSh,ZSh];exact s.tmps,by rw[Zoh,Zoh];exact s.dfr,λt ht=>?_⟩
     ·by_cases hij:i=j
      ·subst hij;exact Z9a hiE
      ·rw[Zqa hij]at hj ⊢;exact s.sub j hj
     ·by_cases hij:i=j
      ·subst hij;rw[Z9a his]at hl;cases hl
      ·rw[Zqa hij]at hEj hl;obtain⟨hfj,_⟩:=s.pend j oj hj hEj hl;refine⟨hfj,hJ j ?_ oj hj⟩;have:=List.all_eq_true.1 hAJ j (List.mem_range.2 (Z5c hj));simp only[hEj,hfj,Bool.and_self,Bool.not_true,Bool.false_or,Bool.or_eq_true]at this;rcases this with t | t
       ·have:=hAl j (by simpa using t);rw[hl]at this;cases this
       ·simpa using t
     ·have base:(∀ d,o.dst=some d→d≠t)→(r.put o.dst x).tmps.getD t undef=(a.put o.dst x).tmps.getD t undef:=by
       intro hne
       cases hd:o.dst with
       | none =>
        exact s.agree t λj oj hj hEj hl=>ht j oj hj (by
         by_cases hij:i=j
         ·subst hij;exact Z9a hiE
         ·rw[Zqa hij];exact hEj) (by
         by_cases hij:i=j
         ·subst hij;rw[hEif]at hEj;cases hEj
         ·rw[Zqa hij];exact hl)
       | some d =>
        rw[ZYe (hne d hd),ZYe (hne d hd)];exact s.agree t λj oj hj hEj hl=>ht j oj hj (by
         by_cases hij:i=j
         ·subst hij;exact Z9a hiE
         ·rw[Zqa hij];exact hEj) (by
         by_cases hij:i=j
         ·subst hij;rw[hEif]at hEj;cases hEj
         ·rw[Zqa hij];exact hl)
      cases hd:o.dst with
      | none=>rw[← hd];exact base (λd e=>by rw[hd]at e;cases e)
      | some d =>
       by_cases hdt:d=t
       ·subst hdt;rcases Nat.lt_or_ge d r.tmps.size with h1 | h1
        ·rw[ZKf h1,ZKf (by rw[← s.tmps];exact h1)]
        ·have h2:a.tmps.size≤d:=by rw[← s.tmps];exact h1
         rw[Zik h1,Zik h2]
       ·rw[← hd];exact base (λd' e=>by rw[hd]at e;cases e;exact hdt)
    by_cases hw:Region.wanted o (yielded ops a.tmps)=true
    ·rw[iP hw]at hstep ⊢;exact .inl (Znh hev hstep λx w' ⟨hJ,hRg⟩=>sim x w' hJ hRg)
    ·rw[iN hw]at hstep ⊢;exact sim undef w hstep.1 hstep.2
theorem ZHr {id:Nat} {l:List Oper} {fl:Array Bool} {a:Act} {w:World} (hm:P.follows .mixedOrders=true)
  (h:Rg P l.toArray Q fl (Array.replicate l.length false) a w.drew):(Code.region id l.toArray true).wp P Q a w:=by
 refine wp_region_any hm ?_;have hz:∀ j,(Array.replicate l.length false).getD j false=false:=λj=>getD_replicate_false _ _;have hl:left (Array.replicate l.length false)=l.length:=by
  simp[left]
 have:=h (by simp) (λj o _ hj=>absurd ((hz j).symm.trans hj) (by simp)) _ (Array.replicate l.length false) a hl
  ⟨by simp,λj hj=>hj,λj o _ hj=>absurd ((hz j).symm.trans hj) (by simp),λj o _ hj=>absurd ((hz j).symm.trans hj) (by simp),rfl,rfl,λ_ _=>rfl⟩
 simpa using this
end
end Go.Eng
namespace Go.Eng
open Go.RowKit
section
variable {P:Program} {K:Nat} {w0:Base} {v0:Za} {σ:List (Nat×Value)} {ℓ:List Loc} {v:Za} {a:Act} {w:World}
variable {ops:Array Oper} {Q:Exit→Act→World→Prop} {rest:List Oper}
theorem St.drew (h:St K w0 v0 σ ℓ v a w):St K w0 v0 σ ℓ v a w.drew:=h.step (Ext.drew w) (VStep.ext h.vin (Ext.drew w))
theorem Zih (w:World) (b k:Nat) (c:Array Value) (h:k≠b):(w.setRow b c).heap[k]? = w.heap[k]?:=setRow_other w b k c h
theorem Ztt {w0:Base} {w:World} (x:ExtB w0 w) {b:Nat} (hb:w0.wd.heap.size≤b∨b ∈ w0.lent) (c:Array Value):ExtB w0 (w.setRow b c) :=
 ⟨x.os,x.tape,x.output,by simp[World.setRow];exact x.size,λk hk hn=>by rw[Zih _ _ _ _ (by rintro rfl;rcases hb with h | h;omega;exact hn h)];exact x.block k hk hn⟩
theorem ZPs {w:World} {b:Nat} {c:Array Value} {e:Loc} (k:e.holds w) (hb:∀ b',e.blk=some b'→b'≠b):e.holds (w.setRow b c):=by
 cases e with
 | box b' T cs=>show _=_;rw[Zih _ _ _ _ (hb b' rfl)];exact k
 | own b' T sz n cap cs =>
  cases b' with
  | none=>exact k
  | some b'=>obtain⟨h1,c',h2,h3⟩:=k;exact⟨h1,c',by rw[Zih _ _ _ _ (hb b' rfl)];exact h2,h3⟩
theorem ZGj {ℓ:List Loc} {i:Nat} {e e':Loc} (h:ℓ[i]? = some e) (hb:e'.blk=e.blk):(ℓ.set i e').filterMap Loc.blk=ℓ.filterMap Loc.blk:=by
 induction ℓ generalizing i with
 | nil=>simp at h
 | cons x l ih =>
  cases i with
  | zero=>simp at h;subst h;simp[List.filterMap_cons,hb]
  | succ i=>simp at h;simp[List.filterMap_cons,ih h]
theorem ZZf {ℓ:List Loc} {i:Nat} {e:Loc} {b:Nat} (hn:(ℓ.filterMap Loc.blk).Nodup) (h:ℓ[i]? = some e) (hb:e.blk=some b) :
  ∀ (j:Nat) (x:Loc),ℓ[j]? = some x→j≠i→∀ b',x.blk=some b'→b'≠b:=by
 induction ℓ generalizing i with
 | nil=>simp at h
 | cons y l ih =>
  intro j x hj hji b' hb' he;subst he
  cases i with
  | zero =>
   simp at h;subst h
   cases j with
   | zero=>exact hji rfl
   | succ j =>
    simp at hj;rw[List.filterMap_cons_some hb]at hn;exact (List.nodup_cons.1 hn).1 (List.mem_filterMap.2 ⟨x,mG hj,hb'⟩)
  | succ i =>
   simp at h
   cases j with
   | zero =>
    simp at hj;subst hj;rw[List.filterMap_cons_some hb']at hn;exact (List.nodup_cons.1 hn).1 (List.mem_filterMap.2 ⟨e,mG h,hb⟩)
   | succ j =>
    simp at hj;have hn':(l.filterMap Loc.blk).Nodup:=by
     cases hy:y.blk with
     | none=>rw[List.filterMap_cons_none hy]at hn;exact hn
     | some by'=>rw[List.filterMap_cons_some hy]at hn;exact (List.nodup_cons.1 hn).2
    exact ih hn' h j x hj (by omega) b' hb' rfl
theorem St.setRow (h:St K w0 v0 σ ℓ v a w) {i b:Nat} {e e':Loc} {c:Array Value} (hi:ℓ[i]? = some e) (hb:e.blk=some b) (hb':e'.blk=some b) (hh:e'.holds (w.setRow b c)) :
  St K w0 v0 σ (ℓ.set i e') v a (w.setRow b c):=by
 obtain⟨he,hv⟩:=h.loc e (mG hi);obtain⟨hge,hnone⟩:=hv b hb;have hx:=Ztt h.ext hge c;refine⟨h.size,h.dfr,h.fr,hx,⟨h.vst.le,λk o hk=>?_,h.vst.old⟩,λx hx'=>?_,?_⟩
 ·rw[Zih _ _ _ _ (λe=>by subst e;rw[hnone]at hk;cases hk)];exact h.vin k o hk
 ·obtain⟨j,hj⟩:=List.getElem?_of_mem hx';by_cases hji:j=i
  ·subst hji;have hlt:j<ℓ.length:=(List.getElem?_eq_some_iff.1 hi).1;rw[List.getElem?_set_self hlt]at hj
   cases hj
   refine⟨hh,λb2 h2=>?_⟩;rw[hb']at h2;cases h2;exact⟨hge,hnone⟩
  ·rw[List.getElem?_set_ne (λe=>hji e.symm)]at hj;obtain⟨h1,h2⟩:=h.loc x (mG hj);exact⟨ZPs h1 (ZZf h.nd hi hb j x hj hji),h2⟩
 ·rw[ZGj hi (hb'.trans hb.symm)];exact h.nd
theorem ZOp {α:Type} (l cs:List α) (n off:Nat) (h:off+cs.length≤n) (hn:n≤l.length) :
  (l.take off++cs++l.drop (off+cs.length)).take n=(l.take n).take off++cs++(l.take n).drop (off+cs.length):=by
 have h1:(l.take off++cs).length=off+cs.length:=by simp;omega
 rw[List.take_append,List.take_of_length_le (by omega),List.take_take,Nat.min_eq_left (by omega),List.drop_take,h1]
theorem ZMq (x:Value):plain x=x.oneCell':=by cases x <;> rfl
theorem Z8l {cs:List Value} (h:cs.all plain=true):∀ x ∈ cs,x.oneCell'=true:=λx hx=>by
 rw[← ZMq];exact List.all_eq_true.1 h x hx
def cellsOf (z:Value) (cs:List Value):Prop:=z.cells=cs.toArray
theorem ZTq (cs:List Value):cellsOf (.agg cs.toArray) cs:=rfl
theorem Zic {z:Value} (h:plain z=true):cellsOf z [z]:=by cases z <;> first | rfl | cases h
variable {d:Option Nat} {ty:TypeId} {pos:String} {aft:Array Edge} {g:Option (Nat×Bool)}
theorem Zen {t T:TypeId} {b off:Nat} {agg:Bool} {z:Value} {cs:List Value} {cur:Array Value} (ht:Sized P t cs.length agg) (hz:cellsOf z cs) (hg:w.heap[b]? = some (.cells cur T (0,0)))
  (hfit:off+cs.length≤cur.size) (hp:cs.all plain=true):(Instr.storeAt t (.pointer (some ⟨b,off,none⟩)) z).run P w = .ok () (w.setRow b (cur.toList.take off++cs++cur.toList.drop (off+cs.length)).toArray):=by
 have:=run_storeCells_at P b off T cs 0 cur w hg (by simpa using hfit) (Z8l hp);simp only[Nat.add_zero]at this;have hz':z.cells=cs.toArray:=hz;simp[Instr.storeAt,Instr.sureAddr,storeVar,hz',ht.size,this]
theorem ZAn (hS:St K w0 v0 σ ℓ v a w) {t:TypeId} {x y:Operand} {p z:Value} {w':World} (e:ev σ x=some p) (ey:ev σ y=some z) (h:(Instr.storeAt t p z).run P w = .ok () w') :
  (execOp a.eval ⟨d,.store t x y,ty,pos,aft,g⟩).run P w = .ok .skip w':=by
 simp[execOp,hS.eval e,hS.eval ey,h]
theorem ZEi (hS:St K w0 v0 σ ℓ v a w) {t T:TypeId} {n b off i:Nat} {agg:Bool} {z:Value} {cs cs0:List Value} (ht:Sized P t n agg)
  (hz:cellsOf z cs) (hn:cs.length=n) (hi:ℓ[i]? = some (.box b T cs0)) (hfit:off+n≤cs0.length) (hp:cs.all plain=true) :
  ∃ w',(∀ {d:Option Nat} {ty:TypeId} {pos:String} {aft:Array Edge} {g:Option (Nat×Bool)} {x y:Operand},ev σ x=some (.pointer (some ⟨b,off,none⟩))→ev σ y=some z→(execOp a.eval ⟨d,.store t x y,ty,pos,aft,g⟩).run P w = .ok .skip w')∧St K w0 v0 σ (ℓ.set i (.box b T (cs0.take off++cs++cs0.drop (off+cs.length)))) v a w':=by
 subst hn;have hg:w.heap[b]? = some (.cells cs0.toArray T (0,0)):=(hS.loc _ (mG hi)).1;have hr:=Zen (P:=P) ht hz hg (by simpa using hfit) hp;refine⟨_,λe ey=>ZAn hS e ey hr,hS.setRow hi rfl rfl ?_⟩;show _=_;exact setRow_heap w b _ _ T _ hg
theorem ZAc (hS:St K w0 v0 σ ℓ v a w) {t T:TypeId} {n m cap sz b off i:Nat} {agg:Bool} {z:Value} {cs cs0:List Value} (ht:Sized P t n agg)
  (hz:cellsOf z cs) (hn:cs.length=n) (hi:ℓ[i]? = some (.own (some b) T sz m cap cs0)) (hfit:off+n≤cs0.length) (hp:cs.all plain=true) :
  ∃ w',(∀ {d:Option Nat} {ty:TypeId} {pos:String} {aft:Array Edge} {g:Option (Nat×Bool)} {x y:Operand},ev σ x=some (.pointer (some ⟨b,off,none⟩))→ev σ y=some z→(execOp a.eval ⟨d,.store t x y,ty,pos,aft,g⟩).run P w = .ok .skip w')∧St K w0 v0 σ (ℓ.set i (.own (some b) T sz m cap (cs0.take off++cs++cs0.drop (off+cs.length)))) v a w':=by
 subst hn;obtain⟨hl,cur,hg,hm,hc,hs,htk⟩:=(hS.loc _ (mG hi)).1;have hle:m*sz≤cur.size:=by rw[hs];exact mR _ hm
 have hfit':off+cs.length≤cur.size:=by omega
 have hr:=Zen (P:=P) (cs:=cs) ht hz hg hfit' hp;refine⟨_,λe ey=>ZAn hS e ey hr,hS.setRow hi rfl rfl ⟨?_,_,setRow_heap w b cur _ T _ hg,hm,hc,?_,?_⟩⟩
 ·simp;omega
 ·simp;omega
 ·rw[← htk];exact ZOp _ _ _ _ (by omega) (by simpa using hle)
def ZG (P:Program) (f:FuncId):Prop:=∀ args w,(callFunc f args).run P w = .ok (.enter f args) w
theorem ZXk (hS:St K w0 v0 σ ℓ v a w) {x:Operand} {f:FuncId} {cap:Array Value} {xs:Array Operand} {ats:Array TypeId} {vals:List Value} (hf:ZG P f) (e:ev σ x=some (.func (.func f) #[] cap))
  (h:xs.toList.map (ev σ)=vals.map some):(execOp a.eval ⟨d,.call ⟨.value x,xs,ats⟩,ty,pos,aft,g⟩).run P w = .ok (.enter f (vals.toArray++cap)) w:=by
 have hx:xs.map a.eval=vals.toArray:=by
  apply Array.ext';rw[Array.toList_map];generalize xs.toList=l at h
  induction l generalizing vals with
  | nil=>cases vals <;> simp_all
  | cons y l ih =>
   cases vals with
   | nil=>simp at h
   | cons u vals=>simp at h;simp[hS.eval h.1,ih h.2]
 simp[execOp,resolve,Deferred.ofValue,invoke,hS.eval e,hx,hf _ w]
theorem Zqb {o:Oper} {y:Nat→Option Bool} (h:o.guard=none):Region.wanted o y=true:=by simp[Region.wanted,h]
theorem Zjg {o:Oper} (hS:St K w0 v0 σ ℓ v a w) {gi t:Nat} {want:Bool} (hg:o.guard=some (gi,want)) (hgd:(ops[gi]?).bind (·.dst)=some t) (ht:look σ t=some (.bool want)) (hK:t<K):Region.wanted o (yielded ops a.tmps)=true:=by
 have h1:=hS.fr t _ ht;have h2:t<a.tmps.size:=by rw[hS.size];exact hK
 simp[h2]at h1;simp[Region.wanted,hg,yielded,hgd,h2,h1]
theorem Ztg {o:Oper} (hS:St K w0 v0 σ ℓ v a w) {gi t:Nat} {want:Bool} (hg:o.guard=some (gi,want)) (hgd:(ops[gi]?).bind (·.dst)=some t) (ht:look σ t=some (.bool !want)) (hK:t<K):Region.wanted o (yielded ops a.tmps)=false:=by
 have h1:=hS.fr t _ ht;have h2:t<a.tmps.size:=by rw[hS.size];exact hK
 simp[h2]at h1;simp[Region.wanted,hg,yielded,hgd,h2,h1]
theorem Z9c {o:Oper} (hS:St K w0 v0 σ ℓ v a w) {gi t:Nat} {want:Bool} (hg:o.guard=some (gi,want)) (hgd:(ops[gi]?).bind (·.dst)=some t) (ht:look σ t=some undef) (hK:t<K):Region.wanted o (yielded ops a.tmps)=false:=by
 have h1:=hS.fr t _ ht;have h2:t<a.tmps.size:=by rw[hS.size];exact hK
 simp[h2]at h1;simp[Region.wanted,hg,yielded,hgd,h2,h1,undef]
theorem ZRr {o:Oper} (hw:Region.wanted o (yielded ops a.tmps)=true) (h:∀ N:Act→World→Prop,(∀ a w,wpList P ops Q rest a w→N a w)→o.wp P a w N Q):wpList P ops Q (o :: rest) a w :=
 wpList_step λ_ hN=>by rw[iP hw];exact h _ hN
theorem Zkc {o:Oper} (hw:Region.wanted o (yielded ops a.tmps)=true) (h:ZTa P o a w λx w'=>wpList P ops Q rest (a.put o.dst x) w'):wpList P ops Q (o :: rest) a w :=
 ZRr hw λ_ hN=>Znh rfl h λ_ _ hx=>hN _ _ hx
theorem op_v {o:Oper} {d:Nat} {x:Value} (hS:St K w0 v0 σ ℓ v a w) (hw:Region.wanted o (yielded ops a.tmps)=true) (hd:o.dst=some d) (hK:d<K) (hrun:(execOp a.eval o).run P w = .ok (.value x) w)
  (h:∀ a,St K w0 v0 ((d,x) :: σ) ℓ v a w→wpList P ops Q rest a w):wpList P ops Q (o :: rest) a w :=
 Zkc hw (Z7e hrun (by rw[hd];exact h _ (hS.put x hK)))
theorem Znd {o:Oper} {d:Nat} (hS:St K w0 v0 σ ℓ v a w) (hw:Region.wanted o (yielded ops a.tmps)=false) (hd:o.dst=some d) (hK:d<K)
  (h:∀ a,St K w0 v0 ((d,undef) :: σ) ℓ v a w→wpList P ops Q rest a w):wpList P ops Q (o :: rest) a w :=
 wpList_step λ_ hN=>by rw[iN (by rw[hw];simp),hd];exact hN _ _ (h _ (hS.put undef hK))
theorem Zwi {o:Oper} {w':World} (hw:Region.wanted o (yielded ops a.tmps)=true) (hd:o.dst=none) (hrun:(execOp a.eval o).run P w = .ok .skip w')
  (h:wpList P ops Q rest a w'):wpList P ops Q (o :: rest) a w :=
 Zkc hw (Zfk hrun (by rw[hd];exact h))
theorem Zno {o:Oper} {d:Nat} {T:TypeId} {cs:List Value} (hS:St K w0 v0 σ ℓ v a w) (hw:Region.wanted o (yielded ops a.tmps)=true) (hd:o.dst=some d) (hK:d<K)
  (hrun:(execOp a.eval o).run P w = .ok (.value (.pointer (some ⟨w.heap.size,0,none⟩))) (w.alloc (.cells cs.toArray T)))
  (h:∀ b a w,St K w0 v0 ((d,.pointer (some ⟨b,0,none⟩)) :: σ) (.box b T cs :: ℓ) v a w→wpList P ops Q rest a w):wpList P ops Q (o :: rest) a w :=
 Zkc hw (Z7e hrun (by
  rw[hd]
  exact h w.heap.size _ _ ((hS.newLoc (.cells cs.toArray T) (e:=.box w.heap.size T cs) rfl (heap_alloc_new w _)).put _ hK)))
theorem op_call {o:Oper} {d:Nat} {f:FuncId} {args:Array Value} {R:Value→Za→Prop} (hS:St K w0 v0 σ ℓ v a w) (hw:Region.wanted o (yielded ops a.tmps)=true) (hd:o.dst=some d) (hK:d<K)
  (hrun:(execOp a.eval o).run P w = .ok (.enter f args) w) (hc:Ret P f args w v R)
  (h:∀ x v' a w,v.le v'→R x v'→St K w0 v0 ((d,x) :: σ) ℓ v' a w→wpList P ops Q rest a w):wpList P ops Q (o :: rest) a w :=
 Zkc hw (ZXb hrun (Calls.mono hc λe w' ⟨r,v',e1,e2,e3,e4⟩=>⟨r,e1,by
  rw[hd]
  exact h r v' _ _ e3.le e4 ((hS.step e2 e3).put r hK)⟩))
theorem ZD (h:Q .normal a w):wpList P ops Q [] a w:=h
theorem next_of {fl E E':Array Bool} {p:Nat} {o:Oper} (A J:List Nat) (hi:ops[p]? = some o) (hA:Zzd ops p [] A=true) (hAJ:((List.range ops.size).all λj=>!(E.getD j false&&fl.getD j false) || A.contains j || J.contains j)=true)
  (hE:E'=E.setIfInBounds p true) (hw:Region.wanted o (yielded ops a.tmps)=true) (h:ZTa P o a w λx w'=>(∀ j ∈ J,∀ oj,ops[j]? = some oj→Pend P ops oj (a.put o.dst x) w')∧Rg P ops Q fl E' (a.put o.dst x) w'):Next P ops Q fl E a w p :=
 ⟨o,A,J,hi,hA,hAJ,by rw[iP hw,← hE];exact h⟩
theorem Z1c {id:Nat} (h:Q .normal a w):Exit.inBlock id Q (.exit id) a w:=by simp only[Exit.inBlock,iP];exact h
theorem ZGm {id k:Nat} (hne:(k==id)=false) (h:Q (.exit k) a w):Exit.inBlock id Q (.exit k) a w:=by
 have:¬ k=id:=by simpa using hne
 simp only[Exit.inBlock,iN this];exact h
theorem least {p:Nat→Prop} (n:Nat) (h:p n):∃ m,p m∧∀ k,p k→m≤k:=by
 induction n using Nat.strongRecOn with
 | _ n ih =>
  by_cases hx:∃ m,m<n∧p m
  ·obtain⟨m,h1,h2⟩:=hx;exact ih m h1 h2
  ·exact⟨n,h,λk hk=>Nat.le_of_not_lt λhlt=>hx ⟨k,hlt,hk⟩⟩
open Classical in
theorem wp_loop_fuel {c:Code} (I:Nat→Act→World→Prop) (n:Nat) (h0:I n a w) (hz:∀ a w,¬ I 0 a w)
  (round:∀ n a w,I (n+1) a w→∀ N:Act→World→Prop,(∀ a w,I n a w→N a w)→c.wp P (Exit.then N Q) a w):(Code.loop c).wp P Q a w:=by
 let μ:Act→World→Nat:=λa w=>if h:∃ m,I m a w∧∀ k,I k a w→m≤k then h.choose else 0
 have hμ:∀ a w k,I k a w→I (μ a w) a w∧μ a w≤k:=by
  intro a w k hk;have hex:=least (p:=λk=>I k a w) k hk;have:μ a w=hex.choose:=dif_pos hex;rw[this];exact⟨hex.choose_spec.1,hex.choose_spec.2 k hk⟩
 refine wp_loop (λa w=>∃ k,I k a w) μ ⟨n,h0⟩ λa w ⟨k,hk⟩=>?_;obtain⟨h1,_⟩:=hμ a w k hk
 cases hm:μ a w with
 | zero=>rw[hm]at h1;exact absurd h1 (hz a w)
 | succ m =>
  rw[hm]at h1;exact round m a w h1 _ λa' w' h'=>⟨⟨m,h'⟩,by have:=(hμ a' w' m h').2;omega⟩
end
end Go.Eng
namespace Go.Eng
open Go.RowKit
def bnd {α β:Type} (x:Option α) (f:α→Option β):Option β:=match x with
 | some y=>f y
 | none=>none
theorem Z0 {α β:Type} {x:Option α} {f:α→Option β} {r:β} (h:bnd x f=some r):∃ y,x=some y∧f y=some r:=by
 cases x with
 | none=>cases h
 | some y=>exact⟨y,rfl,h⟩
def ifb {α:Type} (b:Bool) (x y:Option α):Option α:=match b with
 | true=>x
 | false=>y
theorem Z3a {α:Type} {b:Bool} {x y:Option α} {r:α} (h:ifb b x y=some r) (e:b=true):x=some r:=by subst e;exact h
theorem Z0a {α:Type} {b:Bool} {x y:Option α} {r:α} (h:ifb b x y=some r) (e:b=false):y=some r:=by subst e;exact h
open Classical in
noncomputable def grd {α:Type} (p:Prop) (x:Option α):Option α:=if p then x else none
def Zp {σ ρ:Type} (body:σ→Option (σ ⊕ ρ)):Nat→σ→Option ρ
 | 0,_=>none
 | n+1,s=>bnd (body s) fun
  | .inl s'=>Zp body n s'
  | .inr r=>some r
theorem Zdr {σ ρ:Type} {body:σ→Option (σ ⊕ ρ)} {s:σ} {r:ρ}:¬ Zp body 0 s=some r:=λh=>by cases h
theorem Zxt {σ ρ:Type} {body:σ→Option (σ ⊕ ρ)} {n:Nat} {s:σ} {r:ρ} (h:Zp body (n+1) s=some r) :
  ∃ x,body s=some x∧((∃ s',x = .inl s'∧Zp body n s'=some r)∨x = .inr r):=by
 obtain⟨x,h1,h2⟩:=Z0 h;refine⟨x,h1,?_⟩
 cases x with
 | inl s'=>exact .inl ⟨s',rfl,h2⟩
 | inr r'=>exact .inr (by cases h2;rfl)
def Zy:Nat:=2^70
def inR (k:IntKind) (x:Int):Prop:=k.min≤x∧x≤k.max
instance (k:IntKind) (x:Int):Decidable (inR k x):=inferInstanceAs (Decidable (_∧_))
theorem ZZa {x:Int}:inR .i64 x ↔ -9223372036854775808≤x∧x≤9223372036854775807:=Iff.rfl
theorem ZCd {x:Int}:inR .u64 x↔0≤x∧x≤18446744073709551615:=Iff.rfl
theorem ZEo {x:Int}:inR .u32 x↔0≤x∧x≤4294967295:=Iff.rfl
theorem Z5d {x:Int}:inR .u8 x↔0≤x∧x≤255:=Iff.rfl
theorem Zdm {x:Int}:inR .i32 x ↔ -2147483648≤x∧x≤2147483647:=Iff.rfl
theorem Zvb (k:IntKind) (x:Int):inR k (k.wrap x):=by
 cases k
 ·simp only[inR,IntKind.wrap,IntKind.min,IntKind.max,IntKind.signed,IntKind.bits];simp;first | omega | (split <;> omega)
 ·simp only[inR,IntKind.wrap,IntKind.min,IntKind.max,IntKind.signed,IntKind.bits];simp;first | omega | (split <;> omega)
 ·rw[Zdm,IntKind.wrap_i32];omega
 ·rw[ZZa,IntKind.wrap_i64];omega
 ·rw[Z5d,IntKind.wrap_u8];omega
 ·simp only[inR,IntKind.wrap,IntKind.min,IntKind.max,IntKind.signed,IntKind.bits];simp;first | omega | (split <;> omega)
 ·rw[ZEo,IntKind.wrap_u32];omega
 ·rw[ZCd,IntKind.wrap_u64];omega
theorem ZNc {k:IntKind} {x:Int} (h:inR k x):k.wrap x=x:=by
 cases k
 ·simp only[inR,IntKind.wrap,IntKind.min,IntKind.max,IntKind.signed,IntKind.bits] at *;simp at *;first | omega | (split <;> omega)
 ·simp only[inR,IntKind.wrap,IntKind.min,IntKind.max,IntKind.signed,IntKind.bits] at *;simp at *;first | omega | (split <;> omega)
 ·rw[Zdm]at h;rw[IntKind.wrap_i32];omega
 ·rw[ZZa]at h;rw[IntKind.wrap_i64];omega
 ·rw[Z5d]at h;rw[IntKind.wrap_u8];omega
 ·simp only[inR,IntKind.wrap,IntKind.min,IntKind.max,IntKind.signed,IntKind.bits] at *;simp at *;first | omega | (split <;> omega)
 ·rw[ZEo]at h;rw[IntKind.wrap_u32];omega
 ·rw[ZCd]at h;rw[IntKind.wrap_u64];omega
def chk (k:IntKind) (x:Int):Option Int:=if inR k x then some x else none
theorem Zbb {k:IntKind} {x z:Int} (h:chk k x=some z):z=x∧inR k z:=by
 unfold chk at h;split at h
 ·cases h;exact⟨rfl,‹_›⟩
 ·cases h
theorem ZNn {k:IntKind} {x:Int} (h:inR k x):chk k x=some x:=iP h
section
variable {P:Program} {K:Nat} {w0:Base} {v0:Za} {σ:List (Nat×Value)} {ℓ:List Loc} {v:Za} {a:Act} {w:World}
variable {d:Option Nat} {ty:TypeId} {pos:String} {aft:Array Edge} {g:Option (Nat×Bool)}
theorem Zz (hS:St K w0 v0 σ ℓ v a w) {op:BinOp} {t t':TypeId} {x y:Operand} {k k':IntKind} {p q:Int} {z:Value} (e:ev σ x=some (.int k p)) (e':ev σ y=some (.int k' q))
  (h:∀ w,(binOp op t (.int k p) (.int k' q)).run P w = .ok z w):(execOp a.eval ⟨d,.binOp op t x y t',ty,pos,aft,g⟩).run P w = .ok (.value z) w:=by
 cases op <;> simp[execOp,hS.eval e,hS.eval e',eqGuard,h]
theorem Zcf {t:TypeId} {k:IntKind} {p q z:Int} (h:chk k (p+q)=some z) (w:World):(binOp .add t (.int k p) (.int k q)).run P w = .ok (.int k z) w:=by
 obtain⟨rfl,h⟩:=Zbb h;simp[binOp,Op.intArith,ZNc h]
theorem Zob {t:TypeId} {k:IntKind} {p q z:Int} (h:chk k (p-q)=some z) (w:World):(binOp .sub t (.int k p) (.int k q)).run P w = .ok (.int k z) w:=by
 obtain⟨rfl,h⟩:=Zbb h;simp[binOp,Op.intArith,ZNc h]
theorem bin_mul {t:TypeId} {k:IntKind} {p q z:Int} (h:chk k (p*q)=some z) (w:World):(binOp .mul t (.int k p) (.int k q)).run P w = .ok (.int k z) w:=by
 obtain⟨rfl,h⟩:=Zbb h;simp[binOp,Op.intArith,ZNc h]
theorem ZYj {t:TypeId} {k:IntKind} {p q:Int} (w:World):(binOp .add t (.int k p) (.int k q)).run P w = .ok (.int k (k.wrap (p+q))) w:=by simp[binOp,Op.intArith]
theorem ZFi {t:TypeId} {k:IntKind} {p q:Int} (w:World):(binOp .sub t (.int k p) (.int k q)).run P w = .ok (.int k (k.wrap (p-q))) w:=by simp[binOp,Op.intArith]
theorem Zxq {t:TypeId} {k:IntKind} {p q:Int} (w:World):(binOp .mul t (.int k p) (.int k q)).run P w = .ok (.int k (k.wrap (p*q))) w:=by simp[binOp,Op.intArith]
def quo (k:IntKind) (p q:Int):Option Int:=if q=0 then none else chk k (p.tdiv q)
def rem (_k:IntKind) (p q:Int):Option Int:=if q=0 then none else some (p.tmod q)
theorem ZCn {t:TypeId} {k:IntKind} {p q z:Int} (h:quo k p q=some z) (w:World):(binOp .quo t (.int k p) (.int k q)).run P w = .ok (.int k z) w:=by
 unfold quo at h;split at h
 ·cases h
 ·rename_i hq;obtain⟨rfl,h⟩:=Zbb h;simp[binOp,Op.intDiv,hq,ZNc h]
theorem Z1m {t:TypeId} {k:IntKind} {p q z:Int} (h:rem k p q=some z) (w:World):(binOp .rem t (.int k p) (.int k q)).run P w = .ok (.int k z) w:=by
 unfold rem at h;split at h
 ·cases h
 ·rename_i hq
  cases h
  simp[binOp,Op.intDiv,hq]
theorem Zsl {k:IntKind} {p q z:Int} (h:quo k p q=some z):inR k z:=by
 unfold quo at h;split at h
 ·cases h
 ·exact (Zbb h).2
theorem rem_inR {k:IntKind} {p q z:Int} (hp:inR k p) (h:rem k p q=some z):inR k z:=by
 unfold rem at h;split at h
 ·cases h
 ·rename_i hq
  cases h
  have h1:(p.tmod q).natAbs≤p.natAbs:=by rw[Int.natAbs_tmod];exact Nat.mod_le _ _
  have h2:0≤p→0≤p.tmod q:=λh=>Int.tmod_nonneg _ h;have h3:p≤0→p.tmod q≤0:=λh=>by
   have:=Int.tmod_nonneg (a:=-p) q (by omega);rw[Int.neg_tmod]at this;omega
  have h0:k.min≤0∧0≤k.max:=by cases k <;> decide
  unfold inR at *;omega
theorem ZBe {t:TypeId} {k:IntKind} {p q:Int} (w:World):(binOp .lss t (.int k p) (.int k q)).run P w = .ok (.bool (decide (p<q))) w:=by simp[binOp,Op.intCmp]
theorem Zzo {t:TypeId} {k:IntKind} {p q:Int} (w:World):(binOp .leq t (.int k p) (.int k q)).run P w = .ok (.bool (decide (p≤q))) w:=by simp[binOp,Op.intCmp]
theorem ZAg {t:TypeId} {k:IntKind} {p q:Int} (w:World):(binOp .gtr t (.int k p) (.int k q)).run P w = .ok (.bool (decide (q<p))) w:=by simp[binOp,Op.intCmp]
theorem ZIk {t:TypeId} {k:IntKind} {p q:Int} (w:World):(binOp .geq t (.int k p) (.int k q)).run P w = .ok (.bool (decide (q≤p))) w:=by simp[binOp,Op.intCmp]
theorem Zeh {t:TypeId} {k:IntKind} {p q:Int} (w:World):(binOp .eql t (.int k p) (.int k q)).run P w = .ok (.bool (p==q)) w:=by simp[binOp,Op.intCmp]
theorem bin_neq {t:TypeId} {k:IntKind} {p q:Int} (w:World):(binOp .neq t (.int k p) (.int k q)).run P w = .ok (.bool (p != q)) w:=by simp[binOp,Op.intCmp]
def ZYb (k:IntKind) (p q:Int):Option Int:=if q<0 then none else some (k.wrap (p*2^(min q.toNat k.bits)))
def ZQ (k:IntKind) (p q:Int):Option Int:=if q<0 then none else some (p.fdiv (2^(min q.toNat k.bits)))
theorem bin_shl {t:TypeId} {k k':IntKind} {p q z:Int} (h:ZYb k p q=some z) (w:World):(binOp .shl t (.int k p) (.int k' q)).run P w = .ok (.int k z) w:=by
 unfold ZYb at h;split at h
 ·cases h
 ·rename_i hq;cases h;simp[binOp,Op.shift,hq]
theorem bin_shr {t:TypeId} {k k':IntKind} {p q z:Int} (h:ZQ k p q=some z) (w:World):(binOp .shr t (.int k p) (.int k' q)).run P w = .ok (.int k z) w:=by
 unfold ZQ at h;split at h
 ·cases h
 ·rename_i hq;cases h;simp[binOp,Op.shift,hq]
def Zxa (k:IntKind) (p q:Int):Int:=k.wrap (BitVec.ofInt k.bits p &&& BitVec.ofInt k.bits q).toNat
def orI (k:IntKind) (p q:Int):Int:=k.wrap (BitVec.ofInt k.bits p ||| BitVec.ofInt k.bits q).toNat
theorem bin_and {t:TypeId} {k:IntKind} {p q:Int} (w:World):(binOp .and t (.int k p) (.int k q)).run P w = .ok (.int k (Zxa k p q)) w:=by simp[binOp,Op.intBits,Zxa]
theorem bin_or {t:TypeId} {k:IntKind} {p q:Int} (w:World):(binOp .or t (.int k p) (.int k q)).run P w = .ok (.int k (orI k p q)) w:=by simp[binOp,Op.intBits,orI]
end
structure Rep (α:Type) where
 n:Nat
 agg:Bool
 rel:Za→List Value→α→Prop
 len:∀ {v cs x},rel v cs x→cs.length=n
 mono:∀ {v v' cs x},v.le v'→rel v cs x→rel v' cs x
 flat:∀ {v cs x},rel v cs x→cs.all plain=true
def Rep.val {α:Type} (A:Rep α) (cs:List Value):Value:=match A.agg with
 | true=>.agg cs.toArray
 | false=>cs.headD undef
def Zd (k:IntKind):Rep Int where
 n:=1
 agg:=false
 rel _ cs x:=cs=[.int k x]∧inR k x
 len h:=by rw[h.1];rfl
 mono _ h:=h
 flat h:=by rw[h.1];rfl
def Zec:Rep Bool where
 n:=1
 agg:=false
 rel _ cs x:=cs=[.bool x]
 len h:=by rw[h];rfl
 mono _ h:=h
 flat h:=by rw[h];rfl
def Zm (l:List UInt8):ByteArray:=⟨l.toArray⟩
def ZDa:Rep (List UInt8) where
 n:=1
 agg:=false
 rel _ cs x:=cs=[.string (Zm x)]∧x.length≤maxLen
 len h:=by rw[h.1];rfl
 mono _ h:=h
 flat h:=by rw[h.1];rfl
def ZQb {α β:Type} (A:Rep α) (B:Rep β):Rep (α×β) where
 n:=A.n+B.n
 agg:=true
 rel v cs x:=∃ c1 c2,cs=c1++c2∧A.rel v c1 x.1∧B.rel v c2 x.2
 len h:=by obtain⟨c1,c2,rfl,h1,h2⟩:=h;simp[A.len h1,B.len h2]
 mono hv h:=by obtain⟨c1,c2,rfl,h1,h2⟩:=h;exact⟨c1,c2,rfl,A.mono hv h1,B.mono hv h2⟩
 flat h:=by obtain⟨c1,c2,rfl,h1,h2⟩:=h;rw[List.all_append,A.flat h1,B.flat h2];rfl
def Rep.via {α β:Type} (A:Rep β) (f:α→β):Rep α where
 n:=A.n
 agg:=A.agg
 rel v cs x:=A.rel v cs (f x)
 len h:=A.len h
 mono hv h:=A.mono hv h
 flat h:=A.flat h
def rOne {α:Type} (A:Rep α):Rep α where
 n:=A.n
 agg:=true
 rel v cs x:=A.rel v cs x
 len h:=A.len h
 mono hv h:=A.mono hv h
 flat h:=A.flat h
def Rep.rels {α:Type} (A:Rep α) (v:Za):List Value→List α→Prop
 | cs,[]=>cs=[]
 | cs,x :: l=>∃ c1 c2,cs=c1++c2∧A.rel v c1 x∧A.rels v c2 l
section
variable {α:Type} {A:Rep α} {v v':Za}
theorem ZJb:∀ {l:List α} {cs:List Value},A.rels v cs l→cs.length=l.length*A.n
 | [],cs,h=>by rw[show cs=[] from h];simp
 | x :: l,cs,h=>by obtain⟨c1,c2,rfl,h1,h2⟩:=h;simp[A.len h1,ZJb h2,Nat.succ_mul,Nat.add_comm]
theorem ZI (hv:v.le v'):∀ {l:List α} {cs:List Value},A.rels v cs l→A.rels v' cs l
 | [],cs,h=>h
 | x :: l,cs,h=>by obtain⟨c1,c2,rfl,h1,h2⟩:=h;exact⟨c1,c2,rfl,A.mono hv h1,ZI hv h2⟩
theorem Z9h:∀ {l:List α} {cs:List Value},A.rels v cs l→cs.all plain=true
 | [],cs,h=>by rw[show cs=[] from h];rfl
 | x :: l,cs,h=>by obtain⟨c1,c2,rfl,h1,h2⟩:=h;rw[List.all_append,A.flat h1,Z9h h2];rfl
theorem ZTb:∀ {l l':List α} {cs cs':List Value},A.rels v cs l→A.rels v cs' l'→A.rels v (cs++cs') (l++l')
 | [],l',cs,cs',h,h'=>by rw[show cs=[] from h];exact h'
 | x :: l,l',cs,cs',h,h'=>by obtain⟨c1,c2,rfl,h1,h2⟩:=h;exact⟨c1,c2++cs',by simp,h1,ZTb h2 h'⟩
theorem Ztj {c:List Value} {x:α} (h:A.rel v c x):A.rels v c [x]:=⟨c,[],by simp,h,rfl⟩
theorem ZZe:∀ {l:List α} {cs:List Value} (k:Nat),A.rels v cs l→A.rels v (cs.drop (k*A.n)) (l.drop k)
 | l,cs,0,h=>by simpa using h
 | [],cs,k+1,h=>by rw[show cs=[] from h];simp;rfl
 | x :: l,cs,k+1,h=>by
  obtain⟨c1,c2,rfl,h1,h2⟩:=h
  have:=ZZe k h2
  have e:(k+1)*A.n=c1.length+k*A.n:=by rw[A.len h1,Nat.succ_mul,Nat.add_comm]
  rw[e,List.drop_append,List.drop_of_length_le (by omega)]
  simpa using this
theorem Zsg:∀ {l:List α} {cs:List Value} (k:Nat),A.rels v cs l→A.rels v (cs.take (k*A.n)) (l.take k)
 | l,cs,0,h=>by simp;rfl
 | [],cs,k+1,h=>by rw[show cs=[] from h];simp;rfl
 | x :: l,cs,k+1,h=>by
  obtain⟨c1,c2,rfl,h1,h2⟩:=h
  have:=Zsg k h2
  have e:(k+1)*A.n=c1.length+k*A.n:=by rw[A.len h1,Nat.succ_mul,Nat.add_comm]
  refine⟨c1,c2.take (k*A.n),?_,h1,this⟩
  rw[e,List.take_append,List.take_of_length_le (by omega)]
  simp
theorem Zaa {l:List α} {cs:List Value} {i:Nat} {x:α} (h:A.rels v cs l) (hi:l[i]? = some x):A.rel v ((cs.drop (i*A.n)).take A.n) x:=by
 have h1:=ZZe i h;have hl:i<l.length:=(List.getElem?_eq_some_iff.1 hi).1;have h2:l.drop i=x :: l.drop (i+1):=by rw[List.drop_eq_getElem_cons hl];congr 1;exact (List.getElem?_eq_some_iff.1 hi).2
 rw[h2]at h1;obtain⟨c1,c2,e,h3,_⟩:=h1;rw[e,List.take_append,List.take_of_length_le (by rw[A.len h3];exact Nat.le_refl _),A.len h3]
 simpa using h3
theorem ZZs {l:List α} {cs c:List Value} {i:Nat} {x:α} (h:A.rels v cs l) (hi:i<l.length) (hc:A.rel v c x):A.rels v (cs.take (i*A.n)++c++cs.drop (i*A.n+c.length)) (l.set i x):=by
 have h1:=Zsg i h;have h2:=ZZe (i+1) h;have e:(i+1)*A.n=i*A.n+c.length:=by rw[A.len hc,Nat.succ_mul]
 rw[e]at h2;have:=ZTb (ZTb h1 (Ztj hc)) h2;rw[List.set_eq_take_append_cons_drop,iP hi]
 simpa using this
theorem ZQf {c:List Value} {x:α} (h:A.rel v c x):∀ (n:Nat),A.rels v ((List.replicate n c).flatten) (List.replicate n x)
 | 0=>rfl
 | n+1=>⟨c,(List.replicate n c).flatten,by simp[List.replicate_succ],h,ZQf h n⟩
end
def Zr {α:Type} (A:Rep α):Rep (List α) where
 n:=1
 agg:=false
 rel v cs l:=∃ q cap,cs=[.slice q l.length cap]∧l.length≤cap∧cap≤maxLen ∧
  (l=[] ∨ ∃ b off c T fr,q=some ⟨b,off,none⟩∧v b=some (.cells c T fr)∧A.rels v ((c.toList.drop off).take (l.length*A.n)) l)
 len h:=by obtain⟨q,cap,rfl,_⟩:=h;rfl
 mono hv h:=by
  obtain⟨q,cap,rfl,h1,h2,h3⟩:=h;refine⟨q,cap,rfl,h1,h2,?_⟩;rcases h3 with h3 | ⟨b,off,c,T,fr,e,hb,hr⟩
  ·exact .inl h3
  ·exact .inr ⟨b,off,c,T,fr,e,hv _ _ hb,ZI hv hr⟩
 flat h:=by obtain⟨q,cap,rfl,_⟩:=h;rfl
theorem Zdg {α:Type} (A:Rep α) (v:Za):(Zr A).rel v [.slice none 0 0] ([]:List α):=⟨none,0,rfl,Nat.le_refl _,Nat.zero_le _,.inl rfl⟩
theorem ZEb {α:Type} {A:Rep α} {v:Za} {q:Option Addr} {n cap:Nat} {l:List α} {i:Nat} {x:α} (h:(Zr A).rel v [.slice q n cap] l) (hi:l[i]? = some x) :
  n=l.length∧∃ b off cs,q=some ⟨b,off,none⟩∧At v b (off+i*A.n) cs∧A.rel v cs x:=by
 obtain⟨q',cap',e,h1,h2,h3⟩:=h
 cases e
 refine⟨rfl,?_⟩;rcases h3 with rfl | ⟨b,off,c,T,fr,rfl,hb,hr⟩
 ·simp at hi
 ·have hg:=Zaa hr hi;have hlt:i<l.length:=(List.getElem?_eq_some_iff.1 hi).1;refine⟨b,off,_,rfl,⟨c,T,fr,hb,?_⟩,hg⟩;rw[A.len hg];have:i*A.n+A.n≤l.length*A.n:=by rw[← Nat.succ_mul];exact mR _ hlt
  rw[List.drop_take,List.take_take,List.drop_drop,Nat.min_eq_left (by omega)]
theorem ZBt {α:Type} {A:Rep α} {v:Za} {cs:List Value} {l:List α} (h:(Zr A).rel v cs l):∃ q cap,cs=[.slice q l.length cap]∧l.length≤cap∧cap≤maxLen:=by
 obtain⟨q,cap,e,h1,h2,_⟩:=h;exact⟨q,cap,e,h1,h2⟩
end Go.Eng
namespace Go.Eng
open Go.RowKit
def mkA (b:Option Nat):Option Addr:=match b with
 | some b=>some ⟨b,0,none⟩
 | none=>none
structure Elem (P:Program) (t e:TypeId) (sz bytes:Nat) (z:Value):Prop where
 ty:P.underlying t=some (.slice e)
 info:(P.info? e).map (λi=>(i.zero,i.size,i.bytes))=some (some z,sz,bytes)
 cells:z.cells.size=sz
 pos:0<sz
section
variable {P:Program} {K:Nat} {w0:Base} {v0:Za} {σ:List (Nat×Value)} {ℓ:List Loc} {v:Za} {a:Act} {w:World}
variable {d:Option Nat} {ty:TypeId} {pos:String} {aft:Array Edge} {g:Option (Nat×Bool)}
theorem Z8j {b:Nat} {e':Loc} (he:e'.blk=some b):∀ {ℓ:List Loc} (i:Nat),(ℓ.filterMap Loc.blk).Nodup→(∀ x ∈ ℓ,x.blk≠some b)→((ℓ.set i e').filterMap Loc.blk).Nodup
 | [],_,h,_=>h
 | x :: l,0,h,hn=>by
  rw[List.set_cons_zero,List.filterMap_cons_some he]
  refine List.nodup_cons.2 ⟨λhm=>?_,?_⟩
  ·obtain⟨y,hy,hyb⟩:=List.mem_filterMap.1 hm
   exact hn y (List.mem_cons_of_mem _ hy) hyb
  ·cases hx:x.blk with
   | none=>rw[List.filterMap_cons_none hx]at h;exact h
   | some bx=>rw[List.filterMap_cons_some hx]at h;exact (List.nodup_cons.1 h).2
 | x :: l,i+1,h,hn=>by
  rw[List.set_cons_succ]
  cases hx:x.blk with
  | none =>
   rw[List.filterMap_cons_none hx]at h ⊢
   exact Z8j he i h λy hy=>hn y (List.mem_cons_of_mem _ hy)
  | some bx =>
   rw[List.filterMap_cons_some hx]at h ⊢
   refine List.nodup_cons.2 ⟨λhm=>?_,Z8j he i (List.nodup_cons.1 h).2 λy hy=>hn y (List.mem_cons_of_mem _ hy)⟩
   obtain⟨y,hy,hyb⟩:=List.mem_filterMap.1 hm
   rcases List.mem_or_eq_of_mem_set hy with hy | rfl
   ·exact (List.nodup_cons.1 h).1 (List.mem_filterMap.2 ⟨y,hy,hyb⟩)
   ·rw[he]at hyb;cases hyb
    exact hn x (List.mem_cons_self ..) hx
theorem St.setNew (h:St K w0 v0 σ ℓ v a w) (i:Nat) (o:Obj) {e:Loc} (hb:e.blk=some w.heap.size) (hh:e.holds (w.alloc o)):St K w0 v0 σ (ℓ.set i e) v a (w.alloc o):=by
 have h':=h.step (Ext.alloc w o) (VStep.ext h.vin (Ext.alloc w o));refine⟨h'.size,h'.dfr,h'.fr,h'.ext,h'.vst,λx hx=>?_,Z8j hb i h.nd λx hx e=>?_⟩
 ·rcases List.mem_or_eq_of_mem_set hx with hx | rfl
  ·exact h'.loc x hx
  ·refine⟨hh,λb e'=>?_⟩;rw[hb]at e';cases e';exact⟨.inl h.ext.size,h.vin.none (Nat.le_refl _)⟩
 ·obtain⟨c,T,hg⟩:=Loc.blk_get (h.loc x hx).1 e;have:=Z1b hg;omega
theorem St.setSame (h:St K w0 v0 σ ℓ v a w) {i:Nat} {e e':Loc} (hi:ℓ[i]? = some e) (hb:e'.blk=e.blk) (hh:e'.holds w):St K w0 v0 σ (ℓ.set i e') v a w:=by
 refine⟨h.size,h.dfr,h.fr,h.ext,h.vst,λx hx=>?_,by rw[ZGj hi hb];exact h.nd⟩;rcases List.mem_or_eq_of_mem_set hx with hx | rfl
 ·exact h.loc x hx
 ·exact⟨hh,λb e2=>(h.loc e (mG hi)).2 b (by rw[← hb];exact e2)⟩
theorem ZQh {t e ty:TypeId} {sz bytes:Nat} {z:Value} (E:Elem P t e sz bytes z) (hS:St K w0 v0 σ ℓ v a w) {i n cap:Nat} {b:Option Nat} {cs:List Value} (hi:ℓ[i]? = some (.own b e sz n cap cs))
  {ad:Addr} {m c:Nat} {news:List Value} (hl:news.length=m*sz) (hnews:∀ j u,news[j]? = some u→w.cell? (ad.add j)=some u) (hp:news.all plain=true)
  {n':Nat} (hn':n'=n+m) (hbytes:n'*bytes≤140737488355328) (hpos:0<bytes) :
  ∃ b' cap' w',(Builtin.append_ #[t,t] ty #[.slice (mkA b) n cap,.slice (some ad) m c]).run P w = .ok (.slice (mkA b') n' cap') w'∧St K w0 v0 σ (ℓ.set i (.own b' e sz n' cap' (cs++news))) v a w':=by
 subst hn';have h63:n+m≤maxLen:=by
  have h1:(n+m)*1≤(n+m)*bytes:=Nat.mul_le_mul_left _ hpos;unfold maxLen;omega
 obtain⟨inf,hinf,hz,hs,hby⟩:=info_parts E.info;subst hs;subst hby;have h1:=Z8l hp;have hcm:∀ (w:World) (old:Nat),grownCap w (n+m) old e≤maxLen:=λw old=>grownCap_le_maxLen w (n+m) old e h63;have h63':n+m≤9223372036854775807:=by simp only[maxLen]at h63;omega
 have hsize:∀ k,(Builtin.zeroCells z.cells k).size=k*inf.size:=λk=>by rw[size_zeroCells,E.cells]
 have hD:=hS.drew;have hloc:=(hS.loc _ (mG hi)).1;have fresh:∀ old,old<n+m→cs.length=n*inf.size →
   St K w0 v0 σ (ℓ.set i (.own (some w.heap.size) e inf.size (n+m) (grownCap w (n+m) old e) (cs++news))) v a (w.drew.alloc (.cells (cs.toArray++news.toArray++Builtin.zeroCells z.cells (grownCap w (n+m) old e-(n+m))) e)):=by
  intro old ho hcl;have hge:=grownCap_ge w (n+m) old e;have hlen:(cs++news).length=(n+m)*inf.size:=by rw[lA,hcl,hl,Nat.add_mul]
  refine hD.setNew i _ rfl ⟨hlen,_,heap_alloc_new w.drew _,hge,hcm w old,?_,?_⟩
  ·simp only[Array.size_append,List.size_toArray,hsize,hcl,hl,← Nat.add_mul];congr 1;omega
  ·simp only[Array.toList_append,aAq];rw[← aAq,← hlen];exact List.take_left
 cases b with
 | none =>
  obtain⟨rfl,rfl,rfl⟩:=hloc;by_cases hm:m=0
  ·subst hm;have hn:news=[]:=List.eq_nil_of_length_eq_zero (by simpa using hl);subst hn;refine⟨none,0,w,?_,hS.setSame hi rfl ⟨rfl,rfl,rfl⟩⟩;simp[Builtin.append_,run_underlying E.ty,sizeOf,typeInfo,hinf,Builtin.lenOf,Builtin.firstCells,loadCells,loadCellsFrom,mkA]
  ·have hr:=run_append_nil (P:=P) w t ty e inf z E.ty hinf hz ad m c news hl hnews (by omega) (by omega) (by have hb:=hbytes;simp only[Nat.zero_add]at hb;omega);have:=fresh 0 (by omega) (by simp);simp only[Nat.zero_add,List.nil_append]at this ⊢;exact⟨some w.heap.size,_,_,hr,by simpa using this⟩
 | some b =>
  obtain⟨hcl,cur,hg,hnc,hcx,hcs,htake⟩:=hloc;by_cases hroom:n+m≤cap
  ·have hfit:n*inf.size+news.length≤cur.size:=by rw[hl,hcs,← Nat.add_mul];exact mR _ hroom
   have hr:=run_append_room (P:=P) w t ty e inf E.ty hinf b n cap cur hg ad m c news hl hnews h1 hroom hfit;refine⟨some b,cap,_,hr,hS.setRow hi rfl rfl ⟨?_,_,setRow_heap w b cur _ e _ hg,hroom,hcx,?_,?_⟩⟩
   ·rw[lA,hcl,hl,Nat.add_mul]
   ·simp;omega
   ·have hlen:(cs++news).length=(n+m)*inf.size:=by rw[lA,hcl,hl,Nat.add_mul]
    show List.take _ (_++_++_)=_;rw[htake,← hlen];exact List.take_left
  ·have holds:∀ j u,cs[j]? = some u→w.cell? ((⟨b,0,none⟩:Addr).add j)=some u:=by
    intro j u hu;rw[ZYa,Nat.zero_add];rw[← htake,List.getElem?_take]at hu;split at hu
    ·simp only[World.cell?,hg,Option.isSome_none,Bool.false_eq_true,if_false];simpa using hu
    ·cases hu
   have hr:=run_append_grow (P:=P) w t ty e inf z E.ty hinf hz ⟨b,0,none⟩ n cap cs hcl holds ad m c news hl hnews (by omega) (by omega) (growslice_fits (by omega) hbytes);exact⟨some w.heap.size,_,_,hr,fresh cap (by omega) hcl⟩
theorem ZAd (hS:St K w0 v0 σ ℓ v a w) {t:TypeId} {x y:Operand} {p q r:Value} {w':World} (e:ev σ x=some p) (e':ev σ y=some q) (h:(Builtin.append_ #[t,t] ty #[p,q]).run P w = .ok r w') :
  (execOp a.eval ⟨d,.call ⟨.builtin .append,#[x,y],#[t,t]⟩,ty,pos,aft,g⟩).run P w = .ok (.value r) w':=by
 simp[execOp,resolve,invoke,builtin,hS.eval e,hS.eval e',h]
theorem ZVj (hS:St K w0 v0 σ ℓ v a w) {j n cap b sz:Nat} {T:TypeId} {cs:List Value} (hj:ℓ[j]? = some (.own (some b) T sz n cap cs)):∀ i u,cs[i]? = some u→w.cell? ((⟨b,0,none⟩:Addr).add i)=some u:=by
 intro i u hu;obtain⟨hcl,cur,hg,hnc,hcx,hcs,htake⟩:=(hS.loc _ (mG hj)).1;rw[ZYa,Nat.zero_add];rw[← htake,List.getElem?_take]at hu;split at hu
 ·simp only[World.cell?,hg,Option.isSome_none,Bool.false_eq_true,if_false];simpa using hu
 ·cases hu
theorem own_at (hS:St K w0 v0 σ ℓ v a w) {j n cap b sz:Nat} {T:TypeId} {cs:List Value} (hj:ℓ[j]? = some (.own (some b) T sz n cap cs)) (off k:Nat) (h:off+k≤cs.length):WAt w b off ((cs.drop off).take k):=by
 obtain⟨hcl,cur,hg,hnc,hcx,hcs,htake⟩:=(hS.loc _ (mG hj)).1;have hk:((cs.drop off).take k).length=k:=by simp;omega
 refine⟨cur,T,_,hg,?_⟩;rw[hk];have h2:off+k≤n*sz:=by omega
 rw[← htake,List.drop_take,List.take_take,Nat.min_eq_left (by omega)]
theorem Zdd (hS:St K w0 v0 σ ℓ v a w) {j n cap sz:Nat} {b:Option Nat} {T:TypeId} {cs:List Value} (hj:ℓ[j]? = some (.own b T sz n cap cs)) (h:0<n):∃ b',b=some b':=by
 cases b with
 | none=>obtain⟨h1,_⟩:=(hS.loc _ (mG hj)).1;omega
 | some b'=>exact⟨b',rfl⟩
theorem ZRq (zc:Array Value) (n cap:Nat) (h:n≤cap):(madeCells zc (cap*zc.size)).toList.take (n*zc.size)=(List.replicate n zc.toList).flatten:=by
 have key:∀ m,((List.range (m*zc.size)).map λi=>zc[i%zc.size]!)=(List.replicate m zc.toList).flatten:=by
  intro m
  induction m with
  | zero=>simp
  | succ m ih =>
   rw[Nat.succ_mul,List.range_add,List.map_append,ih,List.replicate_succ',List.flatten_append];congr 1;simp only[List.map_map,List.flatten_cons,List.flatten_nil,List.append_nil];apply List.ext_getElem
   ·simp
   ·intro i h1 h2;have hi:i<zc.size:=by simpa using h1
    simp[Nat.mod_eq_of_lt hi,hi]
 have h1:(madeCells zc (cap*zc.size)).toList=(List.replicate cap zc.toList).flatten:=by
  unfold madeCells;rw[Array.toList_map,Array.toList_range];exact key cap
 rw[h1];obtain⟨k,rfl⟩:=Nat.le.dest h;rw[← List.replicate_append_replicate,List.flatten_append];have h2:((List.replicate n zc.toList).flatten).length=n*zc.size:=by simp
 rw[← h2];exact List.take_left
theorem ZPm {t e:TypeId} {sz bytes:Nat} {z:Value} (E:Elem P t e sz bytes z) (hS:St K w0 v0 σ ℓ v a w) {l c:Int}
  (h0:0≤l) (h1:l≤c) (h2:(bytes:Int)*c≤281474976710656) (h3:c≤9223372036854775807) :
  ∃ b w',(∀ {d:Option Nat} {ty:TypeId} {pos:String} {aft:Array Edge} {g:Option (Nat×Bool)} {x y:Operand} {k k':IntKind},ev σ x=some (.int k l)→ev σ y=some (.int k' c)→(execOp a.eval ⟨d,.makeSlice t x y,ty,pos,aft,g⟩).run P w = .ok (.value (.slice (mkA (some b)) l.toNat c.toNat)) w') ∧
   St K w0 v0 σ (.own (some b) e sz l.toNat c.toNat (List.replicate l.toNat z.cells.toList).flatten :: ℓ) v a w':=by
 obtain⟨inf,hinf,hz,hs,hby⟩:=info_parts E.info;subst hs;subst hby;have hx:∀ {d:Option Nat} {ty:TypeId} {pos:String} {aft:Array Edge} {g:Option (Nat×Bool)} {x y:Operand} {k k':IntKind},ev σ x=some (.int k l)→ev σ y=some (.int k' c)→(execOp a.eval ⟨d,.makeSlice t x y,ty,pos,aft,g⟩).run P w = .ok (.value (.slice (mkA (some w.heap.size)) l.toNat c.toNat)) (w.alloc (.cells (madeCells z.cells (c.toNat*inf.size)) e)):=by
  intro d ty pos aft g x y k k' ex ey;have hr:=run_make (P:=P) w t e inf z E.ty hinf hz k k' l c h0 h1 h2 h3;simp[execOp,hS.eval ex,hS.eval ey,hr,mkA]
 refine⟨_,_,hx,hS.newLoc _ rfl ⟨?_,_,heap_alloc_new w _,by omega,by unfold maxLen;omega,?_,?_⟩⟩
 ·simp[E.cells]
 ·simp[size_madeCells]
 ·rw[← E.cells];exact ZRq z.cells _ _ (by omega)
theorem St.publish (h:St K w0 v0 σ ℓ v a w) {i b:Nat} {e:Loc} {ℓ':List Loc} {o:Obj} (hi:ℓ[i]? = some e) (hb:e.blk=some b) (ho:w.heap[b]? = some o) (hℓ:ℓ'=ℓ.eraseIdx i) :
  ∃ v',v.le v'∧v' b=some o∧St K w0 v0 σ ℓ' v' a w:=by
 subst hℓ;obtain⟨_,hv⟩:=h.loc e (mG hi);obtain⟨hge,hnone⟩:=hv b hb;refine⟨λk=>if k=b then some o else v k,λk x hk=>?_,by simp,h.size,h.dfr,h.fr,h.ext,⟨λk x hk=>?_,λk x hk=>?_,λk hk hn=>?_⟩,λx hx=>?_,?_⟩
 ·have:k≠b:=λe=>by subst e;rw[hnone]at hk;cases hk
  simp[this,hk]
 ·have hk':=h.vst.le k x hk;have:k≠b:=λe=>by subst e;rw[hnone]at hk';cases hk'
  simp[this,hk']
 ·by_cases hkb:k=b
  ·subst hkb;simp at hk;subst hk;exact ho
  ·simp[hkb]at hk;exact h.vin k x hk
 ·have:k≠b:=by
   rintro rfl;rcases hge with h' | h'
   ·omega
   ·exact hn h'
  simp[this,h.vst.old k hk hn]
 ·obtain⟨j,hj⟩:=List.getElem?_of_mem hx;rw[List.getElem?_eraseIdx]at hj;have aux:∀ j',ℓ[j']? = some x→j'≠i→x.holds w∧∀ b',x.blk=some b'→(w0.wd.heap.size≤b'∨b' ∈ w0.lent)∧(if b'=b then some o else v b')=none:=by
   intro j' hj' hne;obtain⟨h1,h2⟩:=h.loc x (mG hj');refine⟨h1,λb' hb'=>?_⟩;have:=ZZf h.nd hi hb j' x hj' hne b' hb';simp[this,h2 b' hb']
  split at hj
  ·exact aux j hj (by omega)
  ·exact aux (j+1) hj (by omega)
 ·exact ((List.eraseIdx_sublist ℓ i).filterMap Loc.blk).nodup h.nd
theorem St.pubSlice {α:Type} {A:Rep α} (h:St K w0 v0 σ ℓ v a w) {i n cap sz:Nat} {b:Option Nat} {T:TypeId} {cs:List Value} {l:List α} {ℓ':List Loc} (hi:ℓ[i]? = some (.own b T sz n cap cs)) (hsz:sz=A.n) (hn:n=l.length)
  (hr:A.rels v cs l) (hℓ:ℓ'=ℓ.eraseIdx i):∃ v',v.le v'∧St K w0 v0 σ ℓ' v' a w∧(Zr A).rel v' [.slice (mkA b) n cap] l:=by
 subst hsz;subst hn
 cases b with
 | none =>
  subst hℓ;obtain⟨h1,rfl,_⟩:=(h.loc _ (mG hi)).1;refine⟨v,Za.le_refl _,h.drop (List.eraseIdx_sublist ℓ i),none,0,rfl,by omega,by unfold maxLen;omega,.inl (List.eq_nil_of_length_eq_zero h1)⟩
 | some b =>
  obtain⟨hcl,cur,hg,hnc,hcx,hcs,htake⟩:=(h.loc _ (mG hi)).1;obtain⟨v',hv,hb,hS⟩:=h.publish hi rfl hg hℓ;refine⟨v',hv,hS,some ⟨b,0,none⟩,cap,rfl,hnc,hcx,.inr ⟨b,0,cur,T,_,rfl,hb,?_⟩⟩;rw[List.drop_zero,htake];exact ZI hv hr
theorem St.pubBox (h:St K w0 v0 σ ℓ v a w) {i b:Nat} {T:TypeId} {cs:List Value} {ℓ':List Loc} (hi:ℓ[i]? = some (.box b T cs)) (hℓ:ℓ'=ℓ.eraseIdx i):∃ v',v.le v'∧St K w0 v0 σ ℓ' v' a w∧v' b=some (.cells cs.toArray T (0,0)):=by
 obtain⟨v',hv,hb,hS⟩:=h.publish hi rfl (h.loc _ (mG hi)).1 hℓ;exact⟨v',hv,hS,hb⟩
theorem at_box {v:Za} {b:Nat} {T:TypeId} {fr:Nat×Nat} {cs0:List Value} (h:v b=some (.cells cs0.toArray T fr)) (off:Nat) (cs:List Value) (e:(cs0.drop off).take cs.length=cs):At v b off cs:=⟨_,_,_,h,by simpa using e⟩
theorem Zos (hS:St K w0 v0 σ ℓ v a w) {α:Type} {A:Rep α} {t e:TypeId} {q:Option Addr} {n cap:Nat} {l:List α} {p r:Int} (ht:Zsd P t e A.n) (hr:(Zr A).rel v [.slice q n cap] l)
  (h0:0≤p) (h1:p≤r) (h2:r≤l.length) :
  ∃ q' cap',(∀ {d:Option Nat} {ty:TypeId} {pos:String} {aft:Array Edge} {g:Option (Nat×Bool)} {x:Operand} {lo hi:Option Operand},ev σ x=some (.slice q n cap)→((lo=none∧p=0) ∨ ∃ y k,lo=some y∧ev σ y=some (.int k p))→((hi=none∧r=l.length) ∨ ∃ y k,hi=some y∧ev σ y=some (.int k r)) →
   (execOp a.eval ⟨d,.slice t x lo hi none,ty,pos,aft,g⟩).run P w = .ok (.value (.slice q' (r-p).toNat cap')) w)∧(Zr A).rel v [.slice q' (r-p).toNat cap'] ((l.take r.toNat).drop p.toNat):=by
 obtain⟨q',cap',e',hl,hm,hcase⟩:=hr
 cases e'
 have hlen:((l.take r.toNat).drop p.toNat).length=(r-p).toNat:=by simp;omega
 have hcap:r≤cap:=by omega
 refine⟨if cap=p.toNat then q else q.map (·.add (p.toNat*A.n)),cap-p.toNat,?_,?_⟩
 ·intro d ty pos aft g x lo hi ex elo ehi;have e1:(r-p).toNat=r.toNat-p.toNat:=by omega
  rw[e1];rcases elo with ⟨rfl,rfl⟩ | ⟨y,k,rfl,hy⟩ <;> rcases ehi with ⟨rfl,rfl⟩ | ⟨y',k',rfl,hy'⟩
  ·simp[execOp,Instr.sliceAt,Instr.slice,Instr.sliceBounds,hS.eval ex,ht.1,ht.2]
  ·have hc:¬ ((cap:Int)<r):=by omega
   have hb:0≤r∧r≤cap:=by omega
   simp[execOp,Instr.sliceAt,Instr.slice,Instr.sliceBounds,Instr.sliceBound,asIntOf,hS.eval ex,hS.eval hy',ht.1,ht.2,hb]
  ·have hb:0≤p∧p≤l.length:=by omega
   simp[execOp,Instr.sliceAt,Instr.slice,Instr.sliceBounds,Instr.sliceBound,asIntOf,hS.eval ex,hS.eval hy,ht.1,ht.2,hb]
  ·have hb:0≤r∧r≤cap:=by omega
   have hb':0≤p∧p≤(r.toNat:Int):=by omega
   have hb'':p≤max r 0:=by omega
   simp[execOp,Instr.sliceAt,Instr.slice,Instr.sliceBounds,Instr.sliceBound,asIntOf,hS.eval ex,hS.eval hy,hS.eval hy',ht.1,ht.2,hb,hb',hb'']
 ·refine⟨_,_,by rw[hlen],by omega,by omega,?_⟩;rcases hcase with rfl | ⟨b,off,c,T,fr,rfl,hb,hrel⟩
  ·left;simp
  ·by_cases hz:(l.take r.toNat).drop p.toNat=[]
   ·exact .inl hz
   ·right;have hpos:p.toNat<r.toNat:=by
     rcases Nat.lt_or_ge p.toNat r.toNat with h | h
     ·exact h
     ·exact absurd (List.drop_of_length_le (by simp;omega)) hz
    have hne:¬ cap=p.toNat:=by omega
    rw[iN hne];refine⟨b,off+p.toNat*A.n,c,T,fr,by simp[ZYa],hb,?_⟩;have:=ZZe p.toNat (Zsg r.toNat hrel);rw[hlen];have e1:(List.drop (p.toNat*A.n) (List.take (r.toNat*A.n) (List.take (l.length*A.n) (List.drop off c.toList))))=List.take ((r-p).toNat*A.n) (List.drop (off+p.toNat*A.n) c.toList):=by
     have hle:r.toNat*A.n≤l.length*A.n:=mR _ (by omega);rw[List.take_take,Nat.min_eq_left hle,List.drop_take,List.drop_drop];congr 1;have:(r-p).toNat=r.toNat-p.toNat:=by omega
     rw[this,Nat.sub_mul]
    rw[e1]at this;exact this
end
end Go.Eng
namespace Go.Eng
open Go.RowKit
def idx {α:Type} (l:List α) (i:Int):Option α:=if 0≤i then l[i.toNat]? else none
theorem Zg {α:Type} {l:List α} {i:Int} {x:α} (h:idx l i=some x):0≤i∧l[i.toNat]? = some x∧i<l.length∧i.toNat<l.length:=by
 unfold idx at h;split at h
 ·have:=(List.getElem?_eq_some_iff.1 h).1;exact⟨‹_›,h,by omega,this⟩
 ·cases h
section
variable {P:Program} {K:Nat} {w0:Base} {v0:Za} {σ:List (Nat×Value)} {ℓ:List Loc} {v:Za} {a:Act} {w:World}
variable {d:Option Nat} {ty:TypeId} {pos:String} {aft:Array Edge} {g:Option (Nat×Bool)}
variable {ops:Array Oper} {Q:Exit→Act→World→Prop} {rest:List Oper}
theorem Z6j {α:Type} {A:Rep α} {v:Za} {b off n cap:Nat} {l:List α} {i:Nat} {x:α} (h:(Zr A).rel v [.slice (some ⟨b,off,none⟩) n cap] l) (hi:l[i]? = some x) :
  ∃ cs,At v b (off+i*A.n) cs∧A.rel v cs x:=by
 obtain⟨_,b',off',cs,e,h1,h2⟩:=ZEb h hi
 cases e
 exact⟨cs,h1,h2⟩
theorem At.sub {v:Za} {b off:Nat} {cs:List Value} (h:At v b off cs) (k:Nat) (cs':List Value) (e:(cs.drop k).take cs'.length=cs') (hk:k+cs'.length≤cs.length):At v b (off+k) cs':=by
 obtain⟨c,T,fr,h1,h2⟩:=h;refine⟨c,T,fr,h1,?_⟩;rw[← List.drop_drop];rw[← h2,List.drop_take,List.take_take,Nat.min_eq_left (by omega)]at e;exact e
theorem Zcd (hS:St K w0 v0 σ ℓ v a w) {j n cap b sz:Nat} {T:TypeId} {cs:List Value} (hj:ℓ[j]? = some (.own (some b) T sz n cap cs)) {i:Nat} {c:List Value} (e:(cs.drop (i*sz)).take sz=c) (hi:i<n)
  (k:Nat) (c':List Value) (e':(c.drop k).take c'.length=c') (hk:k+c'.length≤sz):WAt w b (0+i*sz+k) c':=by
 obtain⟨hcl,_⟩:=(hS.loc _ (mG hj)).1;have h1:i*sz+sz≤n*sz:=by rw[← Nat.succ_mul];exact mR _ hi
 have:=own_at hS hj (i*sz+k) c'.length (by omega);rw[Nat.zero_add];have e2:(cs.drop (i*sz+k)).take c'.length=c':=by
  rw[← e,List.drop_take,List.take_take,Nat.min_eq_left (by omega),List.drop_drop]at e';exact e'
 rw[e2]at this;exact this
theorem Zha (hS:St K w0 v0 σ ℓ v a w) {x:Operand} {f:FuncId} {xs:Array Operand} {ats:Array TypeId} (vals:List Value) (hf:ZG P f) (e:ev σ x=some (.func (.func f) #[] #[]))
  (h:xs.toList.map (ev σ)=vals.map some):(execOp a.eval ⟨d,.call ⟨.value x,xs,ats⟩,ty,pos,aft,g⟩).run P w = .ok (.enter f vals.toArray) w:=by
 have:=ZXk (d:=d) (ty:=ty) (pos:=pos) (aft:=aft) (g:=g) (ats:=ats) hS hf e h
 simpa using this
theorem ZJr (hS:St K w0 v0 σ ℓ v a w) {fn:Fn} {xs:Array Operand} (vals:List Value) (h:xs.toList.map (ev σ)=vals.map some) :
  (execOp a.eval ⟨d,.makeFunc fn #[] xs,ty,pos,aft,g⟩).run P w = .ok (.value (.func fn #[] vals.toArray)) w:=by
 have hx:xs.map a.eval=vals.toArray:=by
  apply Array.ext';rw[Array.toList_map];generalize xs.toList=l at h
  induction l generalizing vals with
  | nil=>cases vals <;> simp_all
  | cons y l ih =>
   cases vals with
   | nil=>simp at h
   | cons u vals=>simp at h;simp[hS.eval h.1,ih _ h.2]
 simp[execOp,Instr.makeFunc,hx]
theorem Zmi (hS:St K w0 v0 σ ℓ v a w) {s t:TypeId} {x:Operand} {y z:Value} (e:ev σ x=some y) (h:∀ w,(convert s t y).run P w = .ok z w) :
  (execOp a.eval ⟨d,.convert s t x,ty,pos,aft,g⟩).run P w = .ok (.value z) w:=by
 simp[execOp,hS.eval e,h]
def ConvI (P:Program) (s t:TypeId) (k' k:IntKind):Prop:=∀ (n:Int) (w:World),(convert s t (.int k' n)).run P w = .ok (.int k (k.wrap n)) w
theorem Zdo (hS:St K w0 v0 σ ℓ v a w) {t:TypeId} {ps:Array (Nat×Operand)} (vals:List (Nat×Value)) {z:Value} (h:ps.toList.map (λp=>(ev σ p.2).map λy=>(p.1,y))=vals.map some)
  (hz:(Instr.build t vals.toArray).run P w = .ok z w):(execOp a.eval ⟨d,.build t ps,ty,pos,aft,g⟩).run P w = .ok (.value z) w:=by
 have hx:ps.map (λ(i,x)=>(i,a.eval x))=vals.toArray:=by
  apply Array.ext';rw[Array.toList_map];generalize ps.toList=l at h;clear hz
  induction l generalizing vals with
  | nil=>cases vals <;> simp_all
  | cons y l ih =>
   cases vals with
   | nil=>simp at h
   | cons u vals =>
    simp at h;obtain⟨⟨y',h1,h2⟩,h3⟩:=h;obtain⟨yi,yo⟩:=y;simp only at h1 h2;simp[hS.eval h1,ih _ h3,← h2]
 simp[execOp,hx,hz]
theorem Z0f {t e:TypeId} {sz n:Nat} {vals:List (Nat×Value)} {cs:List Value} (hS:St K w0 v0 σ ℓ v a w) (hn:cs.length=n*sz) (hmax:n≤maxLen) 
  (hz:∀ w,(Instr.buildSlice t n vals.toArray).run P w = .ok (.slice (some ⟨w.heap.size,0,none⟩) n n) (w.alloc (.cells cs.toArray e))) :
  ∃ b w',(∀ {d:Option Nat} {ty:TypeId} {pos:String} {aft:Array Edge} {g:Option (Nat×Bool)} {ps:Array (Nat×Operand)},ps.toList.map (λp=>(ev σ p.2).map λy=>(p.1,y))=vals.map some→(execOp a.eval ⟨d,.buildSlice t n ps,ty,pos,aft,g⟩).run P w = .ok (.value (.slice (mkA (some b)) n n)) w')∧St K w0 v0 σ (.own (some b) e sz n n cs :: ℓ) v a w':=by
 have hx:∀ {ps:Array (Nat×Operand)},ps.toList.map (λp=>(ev σ p.2).map λy=>(p.1,y))=vals.map some→ps.map (λ(i,x)=>(i,a.eval x))=vals.toArray:=by
  intro ps h;apply Array.ext';rw[Array.toList_map];generalize ps.toList=l at h;clear hz
  induction l generalizing vals with
  | nil=>cases vals <;> simp_all
  | cons y l ih =>
   cases vals with
   | nil=>simp at h
   | cons u vals =>
    simp at h;obtain⟨⟨y',h1,h2⟩,h3⟩:=h;obtain⟨yi,yo⟩:=y;simp only at h1 h2;simp[hS.eval h1,ih h3,← h2]
 refine⟨_,_,λh=>by simp[execOp,hx h,hz w,mkA],hS.newLoc (.cells cs.toArray e) rfl ⟨hn,cs.toArray,heap_alloc_new w _,Nat.le_refl _,hmax,by simpa using hn,?_⟩⟩;rw[← hn];simp
theorem ZGq (place:Nat→Option (Nat×Nat)) (cells:Array Value) (i:Nat) (x:Value) (cs:List Value) (hp:place i=some (0,cs.length)) (hx:x.cells=cs.toArray) (hc:cells.size=cs.length):Instr.fill place cells [(i,x)]=some cs.toArray:=by
 have key:∀ (l:List Value) (k:Nat) (acc:Array Value),acc.size=k+l.length→(l.zipIdx k).foldl (λcs (c,j)=>cs.setIfInBounds (0+j) c) acc=(acc.toList.take k++l).toArray:=by
  intro l
  induction l with
  | nil =>
   intro k acc h;have h':acc.size=k:=by simpa using h
   rw[← h'];simp only[List.zipIdx_nil,List.foldl_nil,List.append_nil];rw[List.take_of_length_le (by simp)]
  | cons y l ih =>
   intro k acc h;simp only[List.zipIdx_cons,List.foldl_cons];rw[ih (k+1) _ (by simp at h ⊢;omega)];congr 1;simp only[Array.toList_setIfInBounds,Nat.zero_add];rw[List.take_set,List.set_eq_take_append_cons_drop,iP (by simp at h ⊢;omega)];simp at h;have e1:((acc.toList.take (k+1)).drop (k+1))=[]:=List.drop_of_length_le (by simp;omega);rw[List.take_take,Nat.min_eq_left (by omega),e1];simp
 have h1:¬ (x.cells.size≠cs.length || decide (0+x.cells.size>cells.size)):=by simp[hx,hc]
 unfold Instr.fill;simp only[hp];rw[iN h1];unfold Instr.fill;congr 1;rw[hx];have:=key cs 0 cells (by omega);rw[← Array.foldl_toList]
 simpa using this
theorem Z9k {t e:TypeId} {sz bytes:Nat} {z:Value} (E:Elem P t e sz bytes z) {x:Value} {cs:List Value} (hx:cellsOf x cs) (hn:cs.length=sz) (hs:sz≤16777216) (w:World) :
  (Instr.buildSlice t 1 #[(0,x)]).run P w = .ok (.slice (some ⟨w.heap.size,0,none⟩) 1 1) (w.alloc (.cells cs.toArray e)):=by
 obtain⟨inf,hinf,hz,hsz,hby⟩:=info_parts E.info;have h0:¬ sz=0:=by have:=E.pos;omega
 have h1:¬ (1*sz>2^24):=by omega
 have hf:=ZGq (λi=>some (i*sz,sz)) ((Array.range (1*sz)).map (z.cells[· % z.cells.size]!)) 0 x cs (by simp[hn]) hx (by simp[hn]);simp only[Nat.one_mul]at hf;simp[Instr.buildSlice,run_underlying E.ty,sizeOf,typeInfo,hinf,hsz,zeroValue,hz,h0,hf,newRow,show ¬ (16777216<sz) by omega]
theorem Zvd {o:Oper} {d:Nat} {x:Value} {w':World} {ℓ':List Loc} {v':Za} (hw:Region.wanted o (yielded ops a.tmps)=true) (hd:o.dst=some d) (hK:d<K) (hrun:(execOp a.eval o).run P w = .ok (.value x) w') (hS:St K w0 v0 σ ℓ' v' a w')
  (h:∀ a,St K w0 v0 ((d,x) :: σ) ℓ' v' a w'→wpList P ops Q rest a w'):wpList P ops Q (o :: rest) a w :=
 Zkc hw (Z7e hrun (by rw[hd];exact h _ (hS.put x hK)))
def ZLb:Nat→List Value→List (Nat×Value)
 | _,[]=>[]
 | k,x :: l=>(k,x) :: ZLb (k+1) l
theorem Zso:∀ (l:List Value) (k t:Nat) (x:Value),look (ZLb k l) t=some x→k≤t∧l[t-k]? = some x
 | [],k,t,x,h=>by cases h
 | y :: l,k,t,x,h=>by
  by_cases hk:k=t
  ·subst hk;rw[show ZLb k (y :: l)=(k,y) :: ZLb (k+1) l from rfl,ZRd rfl]at h;cases h;simp
  ·rw[show ZLb k (y :: l)=(k,y) :: ZLb (k+1) l from rfl,Z5e hk]at h
   obtain⟨h1,h2⟩:=Zso l (k+1) t x h
   refine⟨by omega,?_⟩
   have:t-k=t-(k+1)+1:=by omega
   rw[this];simpa using h2
theorem St.enter {w:World} {v:Za} (hv:VIn v w) (args:List Value) (hK:args.length≤K) :
  St K w v (ZLb 0 args) [] v { tmps:=args.toArray++Array.replicate (K-args.toArray.size) undef,defers:=[] } w :=
 ⟨by simp;omega,rfl,λt x h=>by
  obtain⟨_,h2⟩:=Zso args 0 t x h
  have hlt:t<args.length:=(List.getElem?_eq_some_iff.1 h2).1
  have h3:args[t]=x:=(List.getElem?_eq_some_iff.1 h2).2
  simp[Array.getElem?_append,hlt,h3],ExtB.refl (w:Base),⟨Za.le_refl _,hv,λ_ _ _=>rfl⟩,λe he=>(by cases he),by simp⟩
theorem Zsh {f:FuncId} {fn:Func} {c:Code} {args:List Value} {w:World} {v:Za} {R:Value→Za→Prop} (hv:VIn v w) (hf:P.funcs[f]? = some fn) (hb:fn.body=some c) (hK:fn.ntmps=K) (hl:args.length≤K)
  (h:∀ a,St K w v (ZLb 0 args) [] v a w→c.wp P (bodyPost P fn λe w'=>∃ r v',e = .returned r∧Ext w w'∧VStep w v w' v'∧R r v') a w):Ret P f args.toArray w v R :=
 calls_of_wp hf hb (by subst hK;exact h _ (St.enter hv args hl))
def Res (P:Program) (tmps:Array Value) (w:World) (r:ResultVar) (y:Value):Prop:=(match r with
 | .tmp t=>pure (tmps.getD t undef)
 | .cell x t=>do loadVar t (← asAddr (tmps.getD x undef)):Sem Value).run P w = .ok y w
theorem ZDb (hS:St K w0 v0 σ ℓ v a w) {t:Nat} {y:Value} (h:look σ t=some y):Res P a.tmps w (.tmp t) y:=by
 have:=hS.fr t y h;unfold Res;simp only[this];rfl
theorem res_agg (hS:St K w0 v0 σ ℓ v a w) {x t:Nat} {b n:Nat} {cs:List Value} (h:look σ x=some (.pointer (some ⟨b,0,none⟩))) (ht:Sized P t n true) (hn:cs.length=n) (hc:WAt w b 0 cs):Res P a.tmps w (.cell x t) (.agg cs.toArray):=by
 have:=hS.fr x _ h;unfold Res;simp only[this];simp[asAddr,Zum ht hn hc]
theorem res_one (hS:St K w0 v0 σ ℓ v a w) {x t:Nat} {b n:Nat} {y:Value} (h:look σ x=some (.pointer (some ⟨b,0,none⟩))) (ht:Sized P t n false) (hc:WAt w b 0 [y]):Res P a.tmps w (.cell x t) y:=by
 have:=hS.fr x _ h;unfold Res;simp only[this];simp[asAddr,ZEm ht hc]
def ZRh (tmps:Array Value):ResultVar→Sem Value
 | .tmp t=>pure (tmps.getD t undef)
 | .cell x t=>do loadVar t (← asAddr (tmps.getD x undef))
theorem ZNj (fn:Func) (tmps:Array Value):results fn tmps=(do let vs ← fn.results.mapM (ZRh tmps);pure (if h:vs.size=1 then vs[0] else .tuple vs)):=by
 unfold results;have:(λr:ResultVar=>(match r with
   | .tmp t=>pure (tmps.getD t undef)
   | .cell x t=>do loadVar t (← asAddr (tmps.getD x undef)):Sem Value))=ZRh tmps:=by funext r;cases r <;> rfl
 rw[← this];rfl
theorem ZHh {tmps:Array Value} {r:ResultVar} {y:Value} (h:Res P tmps w r y):(ZRh tmps r).run P w = .ok y w:=by cases r <;> exact h
theorem ZDe {fn:Func} {tmps:Array Value} {r:ResultVar} {y:Value} (h:fn.results = #[r]) (h1:Res P tmps w r y):(results fn tmps).run P w = .ok y w:=by
 have h1:=ZHh h1;rw[ZNj,h];simp[h1]
theorem Zyi {fn:Func} {tmps:Array Value} {r1 r2:ResultVar} {y1 y2:Value} (h:fn.results = #[r1,r2]) (h1:Res P tmps w r1 y1) (h2:Res P tmps w r2 y2):(results fn tmps).run P w = .ok (.tuple #[y1,y2]) w:=by
 have h1:=ZHh h1;have h2:=ZHh h2;rw[ZNj,h];simp[h1,h2]
theorem ZRe {w0:World} {fn:Func} {R:Value→Za→Prop} (hS:St K w0 v0 σ ℓ v a w) {y:Value} (hr:(results fn a.tmps).run P w = .ok y w) (h:R y v) :
  bodyPost P fn (λe w'=>∃ r v',e = .returned r∧Ext w0 w'∧VStep w0 v0 w' v'∧R r v') .ret a w :=
 ⟨hS.dfr,y,hr,y,v,rfl,hS.ext.ext,hS.vst.ext,h⟩
theorem Z7b {c:Code} (J:Act→World→Prop) (hx:∀ N:Act→World→Prop,(∀ a w,J a w→N a w)→c.wp P (Exit.then N Q) a w) (hy:∀ a w,J a w→Q .normal a w):c.wp P Q a w :=
 Code.wp_mono (λe a w h=>by cases e <;> first | exact hy _ _ h | exact h) (hx J λ_ _ h=>h)
theorem go_on {σ ρ:Type} {body:σ→Option (σ ⊕ ρ)} {n:Nat} {s:σ} {r:ρ} (h:(∃ s',(Sum.inl s:σ ⊕ ρ) = .inl s'∧Zp body n s'=some r)∨(Sum.inl s:σ ⊕ ρ) = .inr r):Zp body n s=some r:=by
 rcases h with ⟨s',e,h⟩ | h
 ·cases e;exact h
 ·cases h
theorem go_out {σ ρ:Type} {body:σ→Option (σ ⊕ ρ)} {n:Nat} {r0 r:ρ} (h:(∃ s',(Sum.inr r0:σ ⊕ ρ) = .inl s'∧Zp body n s'=some r)∨(Sum.inr r0:σ ⊕ ρ) = .inr r):r0=r:=by
 rcases h with ⟨s',e,h⟩ | h
 ·cases e
 ·cases h;rfl
theorem St.bool (hS:St K w0 v0 σ ℓ v a w) {t:Nat} {b c:Bool} (h:look σ t=some (.bool b)) (e:b=c):St K w0 v0 ((t,.bool c) :: σ) ℓ v a w:=hS.learn (by rw[hS.fr t _ h,e])
theorem ZKg {α:Type} {A:Rep α} {v:Za} {cs:List Value} {l:List α} (h:(Zr A).rel v cs l):inR .i64 (l.length:Int):=by
 obtain⟨q,cap,_,h1,h2⟩:=ZBt h;unfold maxLen at h2;rw[ZZa];omega
theorem Zek (hS:St K w0 v0 σ ℓ v a w) {j n cap sz:Nat} {b:Option Nat} {T:TypeId} {cs:List Value} (hj:ℓ[j]? = some (.own b T sz n cap cs)):inR .i64 (n:Int):=by
 have:=(hS.loc _ (mG hj)).1
 cases b with
 | none=>obtain⟨h,_⟩:=this;subst h;decide
 | some b=>obtain⟨_,c,_,h1,h2,_⟩:=this;unfold maxLen at h2;rw[ZZa];omega
theorem ZZk (hS:St K w0 v0 σ ℓ v a w) {op:BinOp} {t t':TypeId} {x y:Operand} {p q:Bool} {z:Value} (e:ev σ x=some (.bool p)) (e':ev σ y=some (.bool q))
  (h:∀ w,(binOp op t (.bool p) (.bool q)).run P w = .ok z w):(execOp a.eval ⟨d,.binOp op t x y t',ty,pos,aft,g⟩).run P w = .ok (.value z) w:=by
 cases op <;> simp[execOp,hS.eval e,hS.eval e',eqGuard,h]
theorem Zco (hS:St K w0 v0 σ ℓ v a w) {t:TypeId} {x:Operand} {p:Bool} (e:ev σ x=some (.bool p)):(execOp a.eval ⟨d,.unOp .not t x,ty,pos,aft,g⟩).run P w = .ok (.value (.bool !p)) w:=by
 simp[execOp,hS.eval e,Op.unary]
theorem run_neg (hS:St K w0 v0 σ ℓ v a w) {t:TypeId} {x:Operand} {k:IntKind} {p:Int} (e:ev σ x=some (.int k p)):(execOp a.eval ⟨d,.unOp .neg t x,ty,pos,aft,g⟩).run P w = .ok (.value (.int k (k.wrap (-p)))) w:=by
 simp[execOp,hS.eval e,Op.unary,Op.intArith]
end
end Go.Eng
namespace Go.Eng
open Go.RowKit
section
variable {P:Program} {K:Nat} {w0:Base} {v0:Za} {σ:List (Nat×Value)} {ℓ:List Loc} {v:Za} {a:Act} {w:World}
variable {ops:Array Oper} {Q:Exit→Act→World→Prop} {rest:List Oper}
theorem Zo {N:Act→World→Prop} (h:N a w):Exit.then N Q .normal a w:=h
theorem Z2a {N:Act→World→Prop} {id:Nat} (h:Q (.exit id) a w):Exit.then N Q (.exit id) a w:=h
theorem Zrh {N:Act→World→Prop} (h:Q .ret a w):Exit.then N Q .ret a w:=h
theorem ZVc {id:Nat} (h:Q .normal a w):Exit.inBlock id Q .normal a w:=h
theorem ZXm {id:Nat} (h:Q .ret a w):Exit.inBlock id Q .ret a w:=h
theorem Zlb (hS:St K w0 v0 σ ℓ v a w) {c:Operand} {x y:Code} {b:Bool} (e:ev σ c=some (.bool b)) (hb:b=true) (h:x.wp P Q a w):(Code.cond c x y).wp P Q a w :=
 wp_cond_true (by rw[hS.eval e,hb]) h
theorem Zmb (hS:St K w0 v0 σ ℓ v a w) {c:Operand} {x y:Code} {b:Bool} (e:ev σ c=some (.bool b)) (hb:b=false) (h:y.wp P Q a w):(Code.cond c x y).wp P Q a w :=
 wp_cond_false (by rw[hS.eval e,hb]) h
theorem Z4c {c:Code} {τ ρt:Type} {body:τ→Option (τ ⊕ ρt)} {n:Nat} {s0:τ} {ρ:ρt} (hl:Zp body n s0=some ρ) (I:τ→Act→World→Prop) (h0:I s0 a w)
  (round:∀ s a w st,I s a w→body s=some st→∀ N:Act→World→Prop,(∀ s',st = .inl s'→∀ a w,I s' a w→N a w)→(∀ r,st = .inr r→r=ρ)→c.wp P (Exit.then N Q) a w):(Code.loop c).wp P Q a w:=by
 refine wp_loop_fuel (λn a w=>∃ s,Zp body n s=some ρ∧I s a w) n ⟨s0,hl,h0⟩ (λa w ⟨s,h,_⟩=>Zdr h) ?_;rintro n a w ⟨s,h,hI⟩ N hN;obtain⟨st,hst,hcase⟩:=Zxt h;refine round s a w st hI hst N (λs' e a w hI'=>hN a w ⟨s',?_,hI'⟩) (λr e=>?_)
 ·subst e;exact go_on hcase
 ·subst e;exact go_out hcase
theorem Z9j {ℓ:List Loc}:∀ {ips:List Nat} {ℓ':List Loc},ips.map (ℓ[·]?)=ℓ'.map some→∀ e ∈ ℓ',∃ i ∈ ips,ℓ[i]? = some e
 | [],[],_,e,he=>by cases he
 | i :: ips,x :: ℓ',h,e,he=>by
  simp at h
  rcases List.mem_cons.1 he with rfl | he
  ·exact⟨i,List.mem_cons_self ..,h.1⟩
  ·obtain⟨j,hj,h2⟩:=Z9j (by simpa using h.2) e he
   exact⟨j,List.mem_cons_of_mem _ hj,h2⟩
 | [],_ :: _,h,_,_=>by simp at h
 | _ :: _,[],h,_,_=>by simp at h
theorem Z6l {ℓ:List Loc} (hn:(ℓ.filterMap Loc.blk).Nodup):∀ {ips:List Nat} {ℓ':List Loc},ips.map (ℓ[·]?)=ℓ'.map some→ips.Nodup→(ℓ'.filterMap Loc.blk).Nodup
 | [],[],_,_=>by simp
 | i :: ips,x :: ℓ',h,hd=>by
  simp at h
  have hr:=Z6l hn (by simpa using h.2) (List.nodup_cons.1 hd).2
  cases hx:x.blk with
  | none=>rw[List.filterMap_cons_none hx];exact hr
  | some b =>
   rw[List.filterMap_cons_some hx]
   refine List.nodup_cons.2 ⟨λhm=>?_,hr⟩
   obtain⟨y,hy,hyb⟩:=List.mem_filterMap.1 hm
   obtain⟨j,hj,hj2⟩:=Z9j (by simpa using h.2) y hy
   exact ZZf hn h.1 hx j y hj2 (λe=>(List.nodup_cons.1 hd).1 (e ▸ hj)) b hyb rfl
 | [],_ :: _,h,_=>by simp at h
 | _ :: _,[],h,_=>by simp at h
theorem St.reorder {ℓ':List Loc} (h:St K w0 v0 σ ℓ v a w) (ips:List Nat) (e:ips.map (ℓ[·]?)=ℓ'.map some) (hd:ips.Nodup):St K w0 v0 σ ℓ' v a w :=
 ⟨h.size,h.dfr,h.fr,h.ext,h.vst,λx hx=>by
  obtain⟨i,_,hi⟩:=Z9j e x hx
  exact h.loc x (mG hi),Z6l h.nd e hd⟩
theorem Zgg (hS:St K w0 v0 σ ℓ v a w) {j n cap sz:Nat} {b:Option Nat} {T:TypeId} {cs:List Value} (hj:ℓ[j]? = some (.own b T sz n cap cs)) {i:Nat} (h:i<n):0+i*sz+sz≤cs.length:=by
 have h1:i*sz+sz≤n*sz:=by rw[← Nat.succ_mul];exact mR _ h
 have:=(hS.loc _ (mG hj)).1
 cases b with
 | none=>obtain⟨h0,_⟩:=this;omega
 | some b=>obtain⟨h0,_⟩:=this;omega
def mk (bytes:Nat) (l c:Int):Option Unit:=if 0≤l∧l≤c∧(bytes:Int)*c≤281474976710656∧c≤9223372036854775807 then some () else none
theorem Zed {bytes:Nat} {l c:Int} {u:Unit} (h:mk bytes l c=some u):0≤l∧l≤c∧(bytes:Int)*c≤281474976710656∧c≤9223372036854775807:=by
 unfold mk at h;split at h
 ·assumption
 ·cases h
def Zva {α:Type} (bytes:Nat) (l:List α):Option Unit:=if l.length*bytes≤140737488355328 then some () else none
theorem ZEd {α:Type} {bytes:Nat} {l:List α} {u:Unit} (h:Zva bytes l=some u):l.length*bytes≤140737488355328:=by
 unfold Zva at h;split at h
 ·assumption
 ·cases h
def ZWb {α:Type} (l:List α) (lo hi:Int):Option (List α):=if 0≤lo∧lo≤hi∧hi≤l.length then some ((l.take hi.toNat).drop lo.toNat) else none
theorem ZAe {α:Type} {l y:List α} {lo hi:Int} (h:ZWb l lo hi=some y):0≤lo∧lo≤hi∧hi≤l.length∧y=(l.take hi.toNat).drop lo.toNat∧y.length=(hi-lo).toNat:=by
 unfold ZWb at h;split at h
 ·rename_i hc;cases h;refine⟨hc.1,hc.2.1,hc.2.2,rfl,?_⟩;simp;omega
 ·cases h
theorem ZOr {k:IntKind} {p q z:Int} (_:inR k p) (h:ZYb k p q=some z):inR k z:=by
 unfold ZYb at h;split at h
 ·cases h
 ·cases h;exact Zvb _ _
theorem ZFs {k:IntKind} {p q z:Int} (hp:inR k p) (h:ZQ k p q=some z):inR k z:=by
 unfold ZQ at h;split at h
 ·cases h
 ·cases h
  generalize hm:(min q.toNat k.bits)=m;have h2:(0:Int)<2^m:=Int.pow_pos (by decide);have h0:k.min≤0∧0≤k.max:=by cases k <;> decide
  rw[Int.fdiv_eq_ediv_of_nonneg _ (Int.le_of_lt h2)];generalize hc:(2:Int)^m=c at h2;have d1:=Int.mul_ediv_add_emod p c;have d2:=Int.emod_nonneg p (show c≠0 by omega);have d3:=Int.emod_lt_of_pos p h2;generalize p / c=q at *;have e1:q≤max p 0:=by
   rcases Int.lt_or_le 0 q with h | h
   ·have:1*q≤c*q:=Int.mul_le_mul_of_nonneg_right (by omega) (by omega);omega
   ·omega
  have e2:min p 0≤q:=by
   rcases Int.lt_or_le q 0 with h | h
   ·have:c*(q+1)≤1*(q+1):=by
     have:=Int.mul_le_mul_of_nonneg_right (c:=-(q+1)) (show (1:Int)≤c by omega) (by omega);rw[Int.mul_neg,Int.mul_neg]at this;omega
    rw[Int.mul_add]at this;omega
   ·omega
  unfold inR at *;omega
theorem Zrd {k:IntKind} {p q:Int} (h:inR k p) (h':inR k q):inR k (max p q):=by unfold inR at *;omega
theorem min_inR {k:IntKind} {p q:Int} (h:inR k p) (h':inR k q):inR k (min p q):=by unfold inR at *;omega
theorem Z1 {k:IntKind} {v:Za} {x:Int} (h:inR k x):(Zd k).rel v [.int k x] x:=⟨rfl,h⟩
theorem Z0m {v:Za} {x:Bool}:Zec.rel v [.bool x] x:=rfl
theorem Z9f {v:Za} {x:List UInt8} (h:x.length≤maxLen):ZDa.rel v [.string (Zm x)] x:=⟨rfl,h⟩
theorem ZXd {α:Type} {A:Rep α} {v:Za}:A.rels v [] []:=rfl
theorem Z3o {α:Type} {A:Rep α} {v:Za} {c1 c2:List Value} {x:α} {l:List α} (h1:A.rel v c1 x) (h2:A.rels v c2 l):A.rels v (c1++c2) (x :: l):=⟨c1,c2,rfl,h1,h2⟩
theorem Zfj {id:Nat} {l:List Oper} {fl:Array Bool} (hm:P.follows .mixedOrders=true) (hF:okF l.toArray fl=true) (hS:St K w0 v0 σ ℓ v a w)
  (h:∀ ops,ops=l.toArray→OkF ops fl→∀ w,St K w0 v0 σ ℓ v a w→Rg P ops Q fl (Array.replicate l.length false) a w):(Code.region id l.toArray true).wp P Q a w :=
 ZHr hm (h _ rfl (ZVt hF) _ hS.drew)
theorem op_at {l:List Oper} (hops:ops=l.toArray) {i:Nat} {o:Oper} (h:l[i]? = some o):ops[i]? = some o:=by subst hops;simpa using h
theorem ZDr {l:List Oper} {fl E E':Array Bool} {o:Oper} {d:Nat} {x:Value} (hops:ops=l.toArray) (hF:OkF ops fl) (f:Nat) (hi:l[f]? = some o) (hc:fl.getD f false=true∧(Region.ready .any l.toArray E).contains f=true∧E'=E.setIfInBounds f true) (hd:o.dst=some d) (hK:d<K)
  (hS:St K w0 v0 σ ℓ v a w) (hw:Region.wanted o (yielded ops a.tmps)=true) (hrun:(execOp a.eval o).run P w = .ok (.value x) w) (h:∀ a,St K w0 v0 ((d,x) :: σ) ℓ v a w→Rg P ops Q fl E' a w):Rg P ops Q fl E a w :=
 ZQs hF f (op_at hops hi) hc.1 hd (by rw[hS.size];exact hK) (by subst hops;simpa using hc.2.1) hc.2.2 (.inl ⟨hw,hrun⟩) (h _ (hS.put x hK))
theorem rg_fin {l:List Oper} {fl E:Array Bool} (hops:ops=l.toArray) (hF:OkF ops fl) (hr:Region.ready .any l.toArray E=[]) (h:Q .normal a w):Rg P ops Q fl E a w :=
 Zil hF (λ_=>h) λp hp=>by subst hops;rw[hr]at hp;cases hp
theorem rg_go1 {l:List Oper} {fl E:Array Bool} (hops:ops=l.toArray) (hF:OkF ops fl) (p:Nat) (hr:Region.ready .any l.toArray E=[p]) (h:Next P ops Q fl E a w p):Rg P ops Q fl E a w :=
 Zil hF (λh0=>by subst hops;rw[hr]at h0;cases h0) λq hq=>by subst hops;rw[hr]at hq;rw[List.mem_singleton.1 hq];exact h
def Zgb (P:Program) (ops:Array Oper) (l:List Oper) (a:Act) (w:World) (J:List Nat):Prop:=∀ j ∈ J,∀ oj,l[j]? = some oj→Pend P ops oj a w
theorem Zff {l:List Oper}:Zgb P ops l a w []:=λ_ h=>by cases h
theorem Z8s {l:List Oper} {J:List Nat} {j d:Nat} {o:Oper} {x:Value} (hS:St K w0 v0 σ ℓ v a w) (hi:l[j]? = some o) (hd:o.dst=some d) (hl:look σ d=some x) (hw:Region.wanted o (yielded ops a.tmps)=true) (hrun:(execOp a.eval o).run P w = .ok (.value x) w)
  (r:Zgb P ops l a w J):Zgb P ops l a w (j :: J):=λk hk ok hok=>by
 rcases List.mem_cons.1 hk with rfl | hk
 ·rw[hi]at hok;cases hok
  exact⟨d,hd,λ_=>by rw[hS.fr d x hl];exact hrun,λh=>absurd (hw.symm.trans h) (by simp)⟩
 ·exact r k hk ok hok
def okP (l:List Oper) (fl E E':Array Bool) (p:Nat) (A J:List Nat):Bool :=
 Zzd l.toArray p [] A&&((List.range l.length).all λj=>!(E.getD j false&&fl.getD j false) || A.contains j || J.contains j)&&(E'==E.setIfInBounds p true)
theorem Zfq {l:List Oper} {fl E E':Array Bool} {p:Nat} {A J:List Nat} (h:okP l fl E E' p A J=true) :
  Zzd l.toArray p [] A=true∧((List.range l.toArray.size).all λj=>!(E.getD j false&&fl.getD j false) || A.contains j || J.contains j)=true∧E'=E.setIfInBounds p true:=by
 simp only[okP,Bool.and_eq_true,beq_iff_eq]at h;exact⟨h.1.1,by simpa using h.1.2,h.2⟩
theorem nx_of {l:List Oper} {fl E E':Array Bool} {p:Nat} {o:Oper} (A J:List Nat) (hops:ops=l.toArray) (hi:l[p]? = some o) (hP:okP l fl E E' p A J=true) (hw:Region.wanted o (yielded ops a.tmps)=true)
  (h:ZTa P o a w λx w'=>Zgb P ops l (a.put o.dst x) w' J∧Rg P ops Q fl E' (a.put o.dst x) w'):Next P ops Q fl E a w p:=by
 obtain⟨h1,h2,h3⟩:=Zfq hP;refine next_of A J (op_at hops hi) (by subst hops;exact h1) (by subst hops;exact h2) h3 hw (Z1i h λx w' ⟨k1,k2⟩=>⟨λj hj oj hoj=>k1 j hj oj (by subst hops;simpa using hoj),k2⟩)
theorem nx_v {l:List Oper} {fl E E':Array Bool} {p d:Nat} {o:Oper} {x:Value} (A J:List Nat) (hops:ops=l.toArray) (hi:l[p]? = some o) (hP:okP l fl E E' p A J=true) (hS:St K w0 v0 σ ℓ v a w) (hw:Region.wanted o (yielded ops a.tmps)=true) (hd:o.dst=some d) (hK:d<K)
  (hrun:(execOp a.eval o).run P w = .ok (.value x) w) (h:∀ a,St K w0 v0 ((d,x) :: σ) ℓ v a w→Zgb P ops l a w J∧Rg P ops Q fl E' a w):Next P ops Q fl E a w p :=
 nx_of A J hops hi hP hw (Z7e hrun (by rw[hd];exact h _ (hS.put x hK)))
theorem nx_call {l:List Oper} {fl E E':Array Bool} {p d:Nat} {o:Oper} {f:FuncId} {args:Array Value} {R:Value→Za→Prop} (A J:List Nat) (hops:ops=l.toArray) (hi:l[p]? = some o) (hP:okP l fl E E' p A J=true) (hS:St K w0 v0 σ ℓ v a w) (hw:Region.wanted o (yielded ops a.tmps)=true) (hd:o.dst=some d) (hK:d<K)
  (hrun:(execOp a.eval o).run P w = .ok (.enter f args) w) (hc:Ret P f args w v R)
  (h:∀ x v' a w,v.le v'→R x v'→St K w0 v0 ((d,x) :: σ) ℓ v' a w→Zgb P ops l a w J∧Rg P ops Q fl E' a w):Next P ops Q fl E a w p :=
 nx_of A J hops hi hP hw (ZXb hrun (Calls.mono hc λe w' ⟨r,v',e1,e2,e3,e4⟩=>⟨r,e1,by
  rw[hd]
  exact h r v' _ _ e3.le e4 ((hS.step e2 e3).put r hK)⟩))
theorem nx_skip {l:List Oper} {fl E E':Array Bool} {p:Nat} {o:Oper} {w':World} (A J:List Nat) (hops:ops=l.toArray) (hi:l[p]? = some o) (hP:okP l fl E E' p A J=true) (hw:Region.wanted o (yielded ops a.tmps)=true) (hd:o.dst=none)
  (hrun:(execOp a.eval o).run P w = .ok .skip w') (h:Zgb P ops l a w' J∧Rg P ops Q fl E' a w'):Next P ops Q fl E a w p :=
 nx_of A J hops hi hP hw (Zfk hrun (by rw[hd];exact h))
end
end Go.Eng
namespace Go.Eng
open Go.RowKit
variable {P:Program} {K:Nat} {w0:Base} {v0:Za} {σ:List (Nat×Value)} {ℓ:List Loc} {v:Za} {a:Act} {w:World}
variable {d:Option Nat} {ty:TypeId} {pos:String} {aft:Array Edge} {g:Option (Nat×Bool)}
theorem Z8g (hS:St K w0 v0 σ ℓ v a w) {x:Operand} {f:FuncId} {xs:Array Operand} {ats:Array TypeId} {y:Value} (vals:List Value) (hf:∀ w,(callFunc f vals.toArray).run P w = .ok (.value y) w) (e:ev σ x=some (.func (.func f) #[] #[]))
  (h:xs.toList.map (ev σ)=vals.map some):(execOp a.eval ⟨d,.call ⟨.value x,xs,ats⟩,ty,pos,aft,g⟩).run P w = .ok (.value y) w:=by
 have hx:xs.map a.eval=vals.toArray:=by
  apply Array.ext';rw[Array.toList_map];generalize xs.toList=l at h;clear hf
  induction l generalizing vals with
  | nil=>cases vals <;> simp_all
  | cons y l ih =>
   cases vals with
   | nil=>simp at h
   | cons u vals =>
    simp at h;simp[hS.eval h.1,ih vals h.2]
 simp[execOp,resolve,Deferred.ofValue,invoke,hx,hS.eval e,hf w]
def Z4a (x y c:Int):Option (Int×Int):=if 0≤x∧0≤y∧0≤c∧c≤1 then some ((x+y+c)%18446744073709551616,(x+y+c) / 18446744073709551616) else none
def Z3b (x y b:Int):Option (Int×Int):=if 0≤x∧0≤y∧0≤b∧b≤1 then some ((x-y-b)%18446744073709551616,if x<y+b then 1 else 0) else none
def Zlh:Array Value→Sem Value:=λargs=>do
 let (x, y, b) ← Extern.MathBitsCarry.three "Sub64" args
 pure (Extern.MathBitsCarry.pair ((x+Extern.MathBitsCarry.m64-y-b)%Extern.MathBitsCarry.m64) (if x<y+b then 1 else 0))
theorem Zls (x y b:Nat) (hb:b≤1) (w:World) :
  (Zlh #[.int .u64 x,.int .u64 y,.int .u64 b]).run P w =
   .ok (.tuple #[.int .u64 (((x+18446744073709551616-y-b)%18446744073709551616:Nat):Int),.int .u64 ((if x<y+b then 1 else 0:Nat):Int)]) w:=by
 have:b=0∨b=1:=by omega
 rcases this with rfl | rfl <;> rfl
def ZMd (P : Program) (f : FuncId) (e : Array Value → Sem Value) : Prop := ∃ fn, P.funcs[f]? = some fn ∧ (fn.name == "runtime.NumGoroutine") = false ∧ fn.body.isNone = true ∧ Extern.findNext fn = none ∧ Extern.find fn = some e
theorem ZMd.run {f:FuncId} {e:Array Value→Sem Value} (h:ZMd P f e) (args:Array Value) (w:World):(callFunc f args).run P w=((e args).run P w).andThen λv w'=>.ok (.value v) w':=by
 obtain⟨fn,h1,h2,h3,h4,h5⟩:=h;exact run_callFunc_extern h1 h2 h3 h4 h5 args w
theorem Zhj {f:FuncId} (hf:ZMd P f add64Entry) {x y c:Int} {r:Int×Int} (h:Z4a x y c=some r) (w:World):(callFunc f #[.int .u64 x,.int .u64 y,.int .u64 c]).run P w = .ok (.value (.tuple #[.int .u64 r.1,.int .u64 r.2])) w:=by
 unfold Z4a at h;split at h
 ·rename_i hh
  cases h
  obtain⟨h1,h2,h3,h4⟩:=hh;rw[hf.run,run_add64 x y c h1 h2 h3 h4];rfl
 ·cases h
theorem Zzl {f:FuncId} (hf:ZMd P f Zlh) {x y c:Int} {r:Int×Int} (hx:inR .u64 x) (hy:inR .u64 y) (h:Z3b x y c=some r) (w:World):(callFunc f #[.int .u64 x,.int .u64 y,.int .u64 c]).run P w = .ok (.value (.tuple #[.int .u64 r.1,.int .u64 r.2])) w:=by
 unfold Z3b at h;split at h
 ·rename_i hh
  cases h
  obtain⟨h1,h2,h3,h4⟩:=hh;obtain⟨X,rfl⟩:=oZ h1;obtain⟨Y,rfl⟩:=oZ h2;obtain⟨C,rfl⟩:=oZ h3;rw[hf.run,Zls X Y C (by omega)];have hx':(X:Int)≤18446744073709551615:=hx.2;have hy':(Y:Int)≤18446744073709551615:=hy.2;have e3:(((X+18446744073709551616-Y-C)%18446744073709551616:Nat):Int)=((X:Int)-Y-C)%18446744073709551616:=by omega
  have e4:(((if X<Y+C then 1 else 0:Nat)):Int)=if (X:Int)<Y+C then 1 else 0:=by
   by_cases h:X<Y+C
   ·rw[iP h,iP (by omega)];rfl
   ·rw[iN h,iN (by omega)];rfl
  rw[e3,e4];rfl
 ·cases h
theorem Zvj {x y c:Int} {r:Int×Int} (h:Z4a x y c=some r):inR .u64 r.1:=by
 unfold Z4a at h;split at h
 ·cases h;exact⟨by show (0:Int)≤_;omega,by show _≤(18446744073709551615:Int);omega⟩
 ·cases h
theorem addW_hi {x y c:Int} {r:Int×Int} (hx:inR .u64 x) (hy:inR .u64 y) (h:Z4a x y c=some r):inR .u64 r.2:=by
 have hx':x≤18446744073709551615:=hx.2;have hy':y≤18446744073709551615:=hy.2;unfold Z4a at h;split at h
 ·cases h;exact⟨by show (0:Int)≤_;omega,by show _≤(18446744073709551615:Int);omega⟩
 ·cases h
theorem Z4n {x y c:Int} {r:Int×Int} (h:Z3b x y c=some r):inR .u64 r.1:=by
 unfold Z3b at h;split at h
 ·cases h;exact⟨by show (0:Int)≤_;omega,by show _≤(18446744073709551615:Int);omega⟩
 ·cases h
theorem Zwl {x y c:Int} {r:Int×Int} (h:Z3b x y c=some r):inR .u64 r.2:=by
 unfold Z3b at h;split at h
 ·cases h
  split <;> exact⟨by show (0:Int)≤_;omega,by show _≤(18446744073709551615:Int);omega⟩
 ·cases h
end Go.Eng
namespace Go.Eng
open Go.RowKit
variable {P:Program} {K:Nat} {w0:Base} {v0:Za} {σ:List (Nat×Value)} {ℓ:List Loc} {v:Za} {a:Act} {w:World}
variable {d:Option Nat} {ty:TypeId} {pos:String} {aft:Array Edge} {g:Option (Nat×Bool)}
theorem ZEa {α:Type} {A:Rep α} {v:Za} {q:Option Addr} {n cap:Nat} {l:List α} (h:(Zr A).rel v [.slice q n cap] l):n=l.length:=by
 obtain⟨q',cap',e,_⟩:=h;cases e;rfl
theorem Ztb (hS:St K w0 v0 σ ℓ v a w) {t et:TypeId} {sz:Nat} {x:Operand} {q:Option Addr} {n m cap:Nat} {ats:Array TypeId} (hn:n=m) (e:ev σ x=some (.slice q n cap)) (h:ats[0]? = some t) (ht:Zsd P t et sz) :
  (execOp a.eval ⟨d,.call ⟨.builtin .len,#[x],ats⟩,ty,pos,aft,g⟩).run P w = .ok (.value (.int .i64 m)) w:=by
 subst hn;exact Zze hS e h ht
theorem ltI {n k:Nat} {i:Int} (hn:n=k) (h:i<k):i<n:=by rw[hn];exact h
theorem ltN {n k i:Nat} (hn:n=k) (h:i<k):i<n:=by rw[hn];exact h
theorem posN {n k i:Nat} (hn:n=k) (h:i<k):0<n:=by omega
theorem setN {α:Type} {n:Nat} {l:List α} {i:Nat} {x:α} (hn:n=l.length):n=(l.set i x).length:=by rw[List.length_set];exact hn
theorem repN {α:Type} {n:Nat} {x:α}:n=(List.replicate n x).length:=by simp
theorem ZYo {t e:TypeId} {sz bytes:Nat} {z:Value} (E:Elem P t e sz bytes z) (hS:St K w0 v0 σ ℓ v a w) {l c:Int} {cs:List Value}
  (h0:0≤l) (h1:l≤c) (h2:(bytes:Int)*c≤281474976710656) (h3:c≤9223372036854775807) (hcs:cs=(List.replicate l.toNat z.cells.toList).flatten) :
  ∃ b w',(∀ {d:Option Nat} {ty:TypeId} {pos:String} {aft:Array Edge} {g:Option (Nat×Bool)} {x y:Operand} {k k':IntKind},ev σ x=some (.int k l)→ev σ y=some (.int k' c)→(execOp a.eval ⟨d,.makeSlice t x y,ty,pos,aft,g⟩).run P w = .ok (.value (.slice (mkA (some b)) l.toNat c.toNat)) w') ∧
   St K w0 v0 σ (.own (some b) e sz l.toNat c.toNat cs :: ℓ) v a w':=by
 subst hcs;exact ZPm E hS h0 h1 h2 h3
theorem appN {α:Type} {l l':List α} {n m:Nat} (h:n=l.length) (h':m=l'.length):(l++l').length=n+m:=by rw[lA,h,h']
theorem Z2c {α:Type} {A:Rep α} {v:Za} {cs:List Value} {l:List α} {n:Nat} (h:A.rels v cs l) (hn:n=l.length):cs.length=n*A.n:=by rw[hn];exact ZJb h
theorem Zje {α:Type} {A:Rep α} {v:Za} {cs c:List Value} {l:List α} {i sz m:Nat} {x:α} (h:A.rels v cs l) (hi:i<l.length) (hx:A.rel v c x) (hsz:sz=A.n) (hm:m=A.n) :
  A.rels v (cs.take (0+i*sz)++c++cs.drop (0+i*sz+m)) (l.set i x):=by
 subst hsz;subst hm;have:=ZZs h hi hx;rw[A.len hx]at this;rw[Nat.zero_add];exact this
end Go.Eng
namespace Go.Eng
open Go.RowKit
variable {P:Program} {K:Nat} {w0:Base} {v0:Za} {σ:List (Nat×Value)} {ℓ:List Loc} {v:Za} {a:Act} {w:World}
variable {d:Option Nat} {ty:TypeId} {pos:String} {aft:Array Edge} {g:Option (Nat×Bool)}
theorem Z5b (l:List UInt8):(Zm l).size=l.length:=by simp[Zm,ByteArray.size]
theorem ZAo (l:List UInt8):(Zm l).toList=l:=ByteArray.toList_mk l
theorem str_inR {l:List UInt8} (h:l.length≤maxLen):inR .i64 (l.length:Int):=by unfold maxLen at h;rw[ZZa];omega
theorem u8_inR (x:UInt8):inR .u8 (x.toNat:Int):=by
 have:=x.toNat_lt;exact⟨by show (0:Int)≤_;omega,by show _≤(255:Int);omega⟩
theorem Zcn (hS:St K w0 v0 σ ℓ v a w) {t:TypeId} {x:Operand} {l:List UInt8} {ats:Array TypeId} (e:ev σ x=some (.string (Zm l))) (h:ats[0]? = some t) (ht:P.underlying t=some .string) :
  (execOp a.eval ⟨d,.call ⟨.builtin .len,#[x],ats⟩,ty,pos,aft,g⟩).run P w = .ok (.value (.int .i64 l.length)) w:=by
 simp[execOp,resolve,invoke,builtin,Builtin.len_,hS.eval e,h,run_underlying ht,goInt,Z5b]
theorem Z2p (hS:St K w0 v0 σ ℓ v a w) {t:TypeId} {x i:Operand} {l:List UInt8} {k:IntKind} {j:Int} {y:UInt8} (e:ev σ x=some (.string (Zm l))) (ei:ev σ i=some (.int k j)) (ht:P.underlying t=some .string) (h:idx l j=some y) :
  (execOp a.eval ⟨d,.index t x i,ty,pos,aft,g⟩).run P w = .ok (.value (.int .u8 (y.toNat:Int))) w:=by
 obtain⟨h0,h1,h2,h3⟩:=Zg h;have hr:=run_index_string (P:=P) w t (Zm l) k j ht;have hs:0≤j∧j<(Zm l).size:=⟨h0,by rw[Z5b];exact h2⟩;rw[dif_pos hs]at hr;have hg:(Zm l)[j.toNat]'(by rw[Z5b];exact h3)=y:=by
  show (l.toArray)[j.toNat]'(by simpa using h3)=y;rw[List.getElem?_eq_getElem h3]at h1
  simpa using h1
 rw[hg]at hr;simp[execOp,hS.eval e,hS.eval ei,hr]
theorem Zvp (l:List UInt8) (p r:Nat):(Zm l).extract p r=Zm ((l.take r).drop p):=by
 unfold Zm;rw[ByteArray.extract_mk,List.drop_take]
theorem Zlr (hS:St K w0 v0 σ ℓ v a w) {t:TypeId} {x:Operand} {lo hi:Option Operand} {l y:List UInt8} {p r:Int} (e:ev σ x=some (.string (Zm l))) (ht:P.underlying t=some .string)
  (elo:(lo=none∧p=0) ∨ ∃ y k,lo=some y∧ev σ y=some (.int k p)) (ehi:(hi=none∧r=l.length) ∨ ∃ y k,hi=some y∧ev σ y=some (.int k r)) (h:ZWb l p r=some y) :
  (execOp a.eval ⟨d,.slice t x lo hi none,ty,pos,aft,g⟩).run P w = .ok (.value (.string (Zm y))) w:=by
 obtain⟨h0,h1,h2,rfl,_⟩:=ZAe h;have hl:r≤(Zm l).size:=by rw[Z5b];exact h2
 have hle:(List.take r.toNat l).length=r.toNat:=by simp;omega
 have e0:Zm ((l.take r.toNat).drop p.toNat)=(Zm l).extract p.toNat r.toNat:=(Zvp l _ _).symm;rcases elo with ⟨rfl,rfl⟩ | ⟨y,k,rfl,hy⟩ <;> rcases ehi with ⟨rfl,rfl⟩ | ⟨y',k',rfl,hy'⟩
 ·have:=run_slice_string_all (P:=P) w t (Zm l) ht;have e1:(Zm l).extract 0 (Zm l).size=Zm l:=by rw[Zvp,Z5b];simp
  rw[e1]at this;simp[execOp,Instr.sliceAt,run_underlying ht,hS.eval e,this]
 ·have:=run_slice_string_to_if (P:=P) w t (Zm l) k' r ht;have hc:0≤r∧r≤(Zm l).size:=⟨by omega,hl⟩;simp[hc]at this;rw[e0];simp[execOp,Instr.sliceAt,run_underlying ht,hS.eval e,hS.eval hy',this]
 ·have:=run_slice_string_from_if (P:=P) w t (Zm l) k p ht;have hc:0≤p∧p≤(Zm l).size:=⟨by omega,by omega⟩;simp[hc]at this;rw[e0];simp[execOp,Instr.sliceAt,run_underlying ht,hS.eval e,hS.eval hy,this,Z5b]
 ·have:=run_slice_string (P:=P) w t (Zm l) k k' p r ht h0 h1 hl;rw[e0];simp[execOp,Instr.sliceAt,run_underlying ht,hS.eval e,hS.eval hy,hS.eval hy',this]
theorem ZZg (hS:St K w0 v0 σ ℓ v a w) {op:BinOp} {t t':TypeId} {x y:Operand} {l m:List UInt8} {z:Value} (e:ev σ x=some (.string (Zm l))) (e':ev σ y=some (.string (Zm m)))
  (h:∀ w,(binOp op t (.string (Zm l)) (.string (Zm m))).run P w = .ok z w):(execOp a.eval ⟨d,.binOp op t x y t',ty,pos,aft,g⟩).run P w = .ok (.value z) w:=by
 cases op <;> simp[execOp,hS.eval e,hS.eval e',eqGuard,h]
def Z6 (l:List UInt8):Option Unit:=if l.length≤maxLen then some () else none
theorem Z5h {l:List UInt8} {u:Unit} (h:Z6 l=some u):l.length≤maxLen:=by
 unfold Z6 at h;split at h
 ·assumption
 ·cases h
theorem ZMn {t:TypeId} {l m:List UInt8} {u:Unit} (h:Z6 (l++m)=some u) (w:World):(binOp .add t (.string (Zm l)) (.string (Zm m))).run P w = .ok (.string (Zm (l++m))) w:=by
 have:=Z5h h;rw[lA]at this;have h2:=run_string_add_sum (P:=P) w (Zm l) (Zm m) (by rw[Z5b,Z5b];exact this);have e:Zm l++Zm m=Zm (l++m):=ByteArray.mk_append_mk l m;rw[e]at h2
 simpa [binOp] using h2
theorem str_eql {t:TypeId} {l m:List UInt8} (w:World):(binOp .eql t (.string (Zm l)) (.string (Zm m))).run P w = .ok (.bool (l==m)) w:=by
 simp[binOp,Op.stringOp,ZAo]
theorem str_neq {t:TypeId} {l m:List UInt8} (w:World):(binOp .neq t (.string (Zm l)) (.string (Zm m))).run P w = .ok (.bool (l != m)) w:=by
 simp[binOp,Op.stringOp,ZAo,bne]
theorem Zts {α:Type} {l y:List α} {p r:Int} (h:ZWb l p r=some y) {n:Nat} (hl:l.length≤n):y.length≤n:=by
 obtain⟨h0,h1,h2,rfl,h3⟩:=ZAe h;omega
end Go.Eng
namespace Go.Eng
open Go.RowKit
variable {P:Program} {K:Nat} {w0:Base} {v0:Za} {σ:List (Nat×Value)} {ℓ:List Loc} {v:Za} {a:Act} {w:World}
variable {d:Option Nat} {ty:TypeId} {pos:String} {aft:Array Edge} {g:Option (Nat×Bool)}
def Z8c (P:Program) (f:FuncId) (args:Array Value) (w:World) (v:Za) (lent:List Nat) (R:Value→Za→World→Prop):Prop :=
 Calls P f args w λe w'=>∃ r v',e = .returned r∧ExtB ⟨w,lent⟩ w'∧VStepB ⟨w,lent⟩ v w' v'∧R r v' w'
theorem St.lend (h:St K w0 v0 σ ℓ v a w) {i b:Nat} {e:Loc} {ℓ':List Loc} (hi:ℓ[i]? = some e) (hb:e.blk=some b) (hℓ:ℓ'=ℓ.eraseIdx i) :
  ∃ v' o,v.le v'∧v' b=some o∧St K w0 v0 σ ℓ' v' a w∧w.heap[b]? = some o∧v b=none∧(w0.wd.heap.size≤b∨b ∈ w0.lent):=by
 obtain⟨he,hv⟩:=h.loc e (mG hi);obtain⟨c,T,hg⟩:=Loc.blk_get he hb;obtain⟨v',h1,h2,h3⟩:=h.publish hi hb hg hℓ;exact⟨v',_,h1,h2,h3,hg,(hv b hb).2,(hv b hb).1⟩
def Loc.fits (e:Loc) (o:Obj):Prop:=∀ (w:World) (b:Nat),e.blk=some b→w.heap[b]? = some o→e.holds w
theorem Loc.fits_of {e:Loc} {b:Nat} {o:Obj} (hb:e.blk=some b) (h:e.holds w) (hg:w.heap[b]? = some o):e.fits o:=by
 intro w' b' hb' hg';rw[hb]at hb';cases hb'
 cases e with
 | box b'' T cs =>
  cases hb
  show _=_;rw[hg',← hg];exact h
 | own b'' T sz n cap cs =>
  cases hb
  obtain⟨h1,cur,h2,h3⟩:=h;exact⟨h1,cur,by rw[hg',← hg];exact h2,h3⟩
theorem St.lendOwn (h:St K w0 v0 σ ℓ v a w) {i b:Nat} {e:Loc} {ℓ':List Loc} (hi:ℓ[i]? = some e) (hb:e.blk=some b) (hℓ:ℓ'=ℓ.eraseIdx i) :
  ∃ v' o,v.le v'∧v' b=some o∧St K w0 v0 σ ℓ' v' a w∧e.fits o∧e.holds w∧w.heap[b]? = some o∧v b=none∧(w0.wd.heap.size≤b∨b ∈ w0.lent):=by
 obtain⟨v',o,h1,h2,h3,h4,h5,h6⟩:=h.lend hi hb hℓ;have he:=(h.loc e (mG hi)).1;exact⟨v',o,h1,h2,h3,Loc.fits_of hb he h4,he,h4,h5,h6⟩
theorem St.takeBack {v1:Za} (h:St K w0 v0 σ ℓ v a w) {b:Nat} {o:Obj} {e:Loc} (hv:v1.le v) (hb:e.blk=some b) (ho:v b=some o) (hf:e.fits o) (hn:v1 b=none) (h1:v0.le v1) (hfr:w0.wd.heap.size≤b∨b ∈ w0.lent) :
  ∃ v',v1.le v'∧St K w0 v0 σ (e :: ℓ) v' a w:=by
 refine⟨λk=>if k=b then none else v k,λk x hk=>?_,h.size,h.dfr,h.fr,h.ext,⟨λk x hk=>?_,λk x hk=>?_,λk hk hl=>?_⟩,λx hx=>?_,?_⟩
 ·have:k≠b:=by rintro rfl;rw[hn]at hk;cases hk
  simp[this,hv _ _ hk]
 ·have hk':=h1 _ _ hk;have:k≠b:=by rintro rfl;rw[hn]at hk';cases hk'
  simp[this,h.vst.le _ _ hk]
 ·by_cases hkb:k=b
  ·simp[hkb]at hk
  ·simp[hkb]at hk;exact h.vin k x hk
 ·by_cases hkb:k=b
  ·subst hkb;simp
   cases hv0:v0 k with
   | none=>rfl
   | some x=>have:=h1 _ _ hv0;rw[hn]at this;cases this
  ·simp[hkb];exact h.vst.old k hk hl
 ·rcases List.mem_cons.1 hx with rfl | hx
  ·refine⟨hf w b hb (h.vin _ _ ho),λb' hb'=>?_⟩;rw[hb]at hb';cases hb';exact⟨hfr,by simp⟩
  ·obtain⟨h2,h3⟩:=h.loc x hx;refine⟨h2,λb' hb'=>⟨(h3 b' hb').1,?_⟩⟩;have:=(h3 b' hb').2;show (if b'=b then none else v b')=none;rw[this];simp
 ·rw[List.filterMap_cons_some hb];refine List.nodup_cons.2 ⟨λhm=>?_,h.nd⟩;obtain⟨x,hx,hxb⟩:=List.mem_filterMap.1 hm;have:=((h.loc x hx).2 b hxb).2;rw[ho]at this;cases this
theorem St.afterL {v':Za} {w':World} (h:St K w0 v0 σ ℓ v a w) {i b:Nat} {e e':Loc} (hi:ℓ[i]? = some e) (hb:e.blk=some b) (hb':e'.blk=some b) (x:ExtB ⟨w,[b]⟩ w') (s:VStepB ⟨w,[b]⟩ v w' v') (hh:e'.holds w') (hn:v' b=none) :
  St K w0 v0 σ (ℓ.set i e') v' a w':=by
 obtain⟨he,hv⟩:=h.loc e (mG hi);obtain⟨hfr,hnone⟩:=hv b hb;obtain⟨c,T,hg⟩:=Loc.blk_get he hb;refine⟨h.size,h.dfr,h.fr,⟨x.os.trans h.ext.os,x.tape.trans h.ext.tape,x.output.trans h.ext.output,Nat.le_trans h.ext.size x.size,λk hk hl=>?_⟩,⟨Za.le_trans h.vst.le s.le,s.vin,λk hk hl=>?_⟩,λy hy=>?_,?_⟩
 ·have hkb:k≠b:=by
   rintro rfl;rcases hfr with h' | h'
   ·omega
   ·exact hl h'
  rw[x.block k (Nat.lt_of_lt_of_le hk h.ext.size) (by simpa using hkb)];exact h.ext.block k hk hl
 ·have hkb:k≠b:=by
   rintro rfl;rcases hfr with h' | h'
   ·omega
   ·exact hl h'
  rw[s.old k (Nat.lt_of_lt_of_le hk h.ext.size) (by simpa using hkb)];exact h.vst.old k hk hl
 ·obtain⟨j,hj⟩:=List.getElem?_of_mem hy;by_cases hji:j=i
  ·subst hji;have hlt:j<ℓ.length:=(List.getElem?_eq_some_iff.1 hi).1;rw[List.getElem?_set_self hlt]at hj
   cases hj
   refine⟨hh,λb2 h2=>?_⟩;rw[hb']at h2;cases h2;exact⟨hfr,hn⟩
  ·rw[List.getElem?_set_ne (λe=>hji e.symm)]at hj;obtain⟨h1,h2⟩:=h.loc y (mG hj);have hne:=ZZf h.nd hi hb j y hj hji;have same:∀ b',y.blk=some b'→w'.heap[b']? = w.heap[b']?:=λb' hb2=>by
    obtain⟨c2,T2,hg2⟩:=Loc.blk_get h1 hb2;exact x.block b' (Z1b hg2) (by simpa using hne b' hb2)
   refine⟨?_,λb' hb2=>⟨(h2 b' hb2).1,?_⟩⟩
   ·cases y with
    | box b' T' cs=>show _=_;rw[same b' rfl];exact h1
    | own b' T' sz n cap cs =>
     cases b' with
     | none=>exact h1
     | some b'=>obtain⟨k1,c',k2,k3⟩:=h1;exact⟨k1,c',by rw[same b' rfl];exact k2,k3⟩
   ·obtain⟨c2,T2,hg2⟩:=Loc.blk_get h1 hb2;rw[s.old b' (Z1b hg2) (by simpa using hne b' hb2)];exact (h2 b' hb2).2
 ·rw[ZGj hi (hb'.trans hb.symm)];exact h.nd
theorem Zdn {f:FuncId} {fn:Func} {c:Code} {args:List Value} {w:World} {v:Za} {b:Nat} {T:TypeId} {cs:List Value} {R:Value→Za→World→Prop} (hv:VIn v w) (hg:w.heap[b]? = some (.cells cs.toArray T (0,0))) (hn:v b=none)
  (hf:P.funcs[f]? = some fn) (hb:fn.body=some c) (hK:fn.ntmps=K) (hl:args.length≤K)
  (h:∀ a,St K ⟨w,[b]⟩ v (ZLb 0 args) [.box b T cs] v a w→c.wp P (bodyPost P fn λe w'=>∃ r v',e = .returned r∧ExtB ⟨w,[b]⟩ w'∧VStepB ⟨w,[b]⟩ v w' v'∧R r v' w') a w):Z8c P f args.toArray w v [b] R:=by
 refine calls_of_wp hf hb ?_;subst hK;refine h _ ?_;have h0:=St.enter (K:=fn.ntmps) hv args hl;refine⟨h0.size,h0.dfr,h0.fr,ExtB.refl ⟨w,[b]⟩,⟨Za.le_refl _,hv,λ_ _ _=>rfl⟩,λe he=>?_,by simp[Loc.blk]⟩;rcases List.mem_singleton.1 he with rfl;exact⟨hg,λb' hb'=>by cases hb';exact⟨.inr (by simp),hn⟩⟩
theorem ZQj {w0:World} {b:Nat} {fn:Func} {R:Value→Za→World→Prop} (hS:St K ⟨w0,[b]⟩ v0 σ ℓ v a w) {y:Value} (hr:(results fn a.tmps).run P w = .ok y w) (h:R y v w) :
  bodyPost P fn (λe w'=>∃ r v',e = .returned r∧ExtB ⟨w0,[b]⟩ w'∧VStepB ⟨w0,[b]⟩ v0 w' v'∧R r v' w') .ret a w :=
 ⟨hS.dfr,y,hr,y,v,rfl,hS.ext,hS.vst,h⟩
theorem St.boxAt (hS:St K w0 v0 σ ℓ v a w) {j b:Nat} {T:TypeId} {cs:List Value} (hj:ℓ[j]? = some (.box b T cs)):w.heap[b]? = some (.cells cs.toArray T (0,0))∧v b=none :=
 ⟨(hS.loc _ (mG hj)).1,((hS.loc _ (mG hj)).2 b rfl).2⟩
theorem Zmg (hS:St K w0 v0 σ ℓ v a w) {j n b sz off:Nat} {T:TypeId} {pre cs post:List Value} (hj:ℓ[j]? = some (.box b T (pre++cs++post))) (ho:off=pre.length) (hl:cs.length=n*sz) {i:Nat} {c:List Value} (e:(cs.drop (i*sz)).take sz=c) (hi:i<n)
  (k:Nat) (c':List Value) (e':(c.drop k).take c'.length=c') (hk:k+c'.length≤sz):WAt w b (off+i*sz+k) c':=by
 subst ho;have h1:i*sz+sz≤n*sz:=by rw[← Nat.succ_mul];exact mR _ hi
 refine hS.box hj (pre.length+i*sz+k) c' ?_;rw[aAq,List.drop_append,List.drop_of_length_le (by omega),List.nil_append,List.drop_append_of_le_length (by omega),List.take_append_of_le_length (by simp;omega)];rw[show pre.length+i*sz+k-pre.length=i*sz+k by omega,← List.drop_drop]
 conv=>rhs;rw[← e',← e]
 rw[List.drop_take,List.take_take,Nat.min_eq_left (by omega)]
theorem Zht (hS:St K w0 v0 σ ℓ v a w) {t T:TypeId} {n nn b i off sz k:Nat} {agg:Bool} {z:Value} {c pre cs post:List Value} (ht:Sized P t n agg) (hz:cellsOf z c) (hn:c.length=n) (hi:ℓ[i]? = some (.box b T (pre++cs++post)))
  (ho:off=pre.length) (hl:cs.length=nn*sz) (hk:k<nn) (hsz:n=sz) (hp:c.all plain=true) :
  ∃ w',(∀ {d:Option Nat} {ty:TypeId} {pos:String} {aft:Array Edge} {g:Option (Nat×Bool)} {x y:Operand},ev σ x=some (.pointer (some ⟨b,off+k*sz,none⟩))→ev σ y=some z→(execOp a.eval ⟨d,.store t x y,ty,pos,aft,g⟩).run P w = .ok .skip w') ∧
   St K w0 v0 σ (ℓ.set i (.box b T (pre++(cs.take (0+k*sz)++c++cs.drop (0+k*sz+n))++post))) v a w':=by
 subst ho;subst hsz;have h1:k*n+n≤nn*n:=by rw[← Nat.succ_mul];exact mR _ hk
 obtain⟨w',hr,hS'⟩:=ZEi hS (off:=pre.length+k*n) (z:=z) (cs:=c) ht hz hn hi (by simp;omega) hp;refine⟨w',hr,?_⟩;have e:(pre++cs++post).take (pre.length+k*n)++c++(pre++cs++post).drop (pre.length+k*n+c.length)=pre++(cs.take (0+k*n)++c++cs.drop (0+k*n+n))++post:=by
  rw[hn,Nat.zero_add,aAq pre cs post,List.take_append,List.take_of_length_le (by omega),List.drop_append,List.drop_of_length_le (by omega),List.take_append_of_le_length (by omega),List.drop_append_of_le_length (by omega)];simp[Nat.add_sub_cancel_left,show pre.length+k*n+n-pre.length=k*n+n by omega]
 rw[← e];exact hS'
theorem seg_rel {α:Type} {A:Rep α} {b n cap off:Nat} {T:TypeId} {fr:Nat×Nat} {pre cs post:List Value} {l:List α} (hv:v b=some (.cells (pre++cs++post).toArray T fr)) (ho:off=pre.length) (hr:A.rels v cs l) (hn:n=l.length) (hc:n≤cap) (hm:cap≤maxLen) :
  (Zr A).rel v [.slice (some ⟨b,off,none⟩) n cap] l:=by
 subst hn ho;refine⟨_,cap,rfl,hc,hm,.inr ⟨b,pre.length,_,T,fr,rfl,hv,?_⟩⟩;have hl:=ZJb hr;have e:(((pre++cs++post).toArray.toList).drop pre.length).take (l.length*A.n)=cs:=by
  rw[List.toList_toArray,aAq,List.drop_left,List.take_append_of_le_length (by omega),List.take_of_length_le (by omega)]
 rw[e];exact hr
theorem St.lendSeg {α:Type} {A:Rep α} (h:St K w0 v0 σ ℓ v a w) {i b n cap off:Nat} {T:TypeId} {pre cs post:List Value} {l:List α} {ℓ':List Loc} (hi:ℓ[i]? = some (.box b T (pre++cs++post))) (hℓ:ℓ'=ℓ.eraseIdx i) (ho:off=pre.length) (hr:A.rels v cs l) (hn:n=l.length) (hc:n≤cap∧cap≤maxLen) :
  ∃ v' o,v.le v'∧v' b=some o∧St K w0 v0 σ ℓ' v' a w∧(Loc.box b T (pre++cs++post)).fits o∧v b=none∧(w0.wd.heap.size≤b∨b ∈ w0.lent)∧(Zr A).rel v' [.slice (some ⟨b,off,none⟩) n cap] l:=by
 obtain⟨v',o,h1,h2,h3,h4,h5,h6,h7,h8⟩:=h.lendOwn hi rfl hℓ;refine⟨v',o,h1,h2,h3,h4,h7,h8,?_⟩;have e:o = .cells (pre++cs++post).toArray T (0,0):=by
  have:w.heap[b]? = _:=h5;rw[h6]at this;exact Option.some.inj this
 exact seg_rel (by rw[h2,e]) ho (ZI h1 hr) hn hc.1 hc.2
theorem St.lendSlice {α:Type} {A:Rep α} (h:St K w0 v0 σ ℓ v a w) {i b n cap sz:Nat} {T:TypeId} {cs:List Value} {l:List α} {ℓ':List Loc} (hi:ℓ[i]? = some (.own (some b) T sz n cap cs)) (hℓ:ℓ'=ℓ.eraseIdx i) (hsz:sz=A.n) (hr:A.rels v cs l) (hn:n=l.length) :
  ∃ v' o,v.le v'∧v' b=some o∧St K w0 v0 σ ℓ' v' a w∧(Loc.own (some b) T sz n cap cs).fits o∧v b=none∧(w0.wd.heap.size≤b∨b ∈ w0.lent)∧(Zr A).rel v' [.slice (mkA (some b)) n cap] l:=by
 subst hsz;obtain⟨v',o,h1,h2,h3,h4,h5,h6,h7,h8⟩:=h.lendOwn hi rfl hℓ;refine⟨v',o,h1,h2,h3,h4,h7,h8,?_⟩;obtain⟨hcl,cur,hg,hnc,hcx,hcs,htake⟩:=h5;rw[h6]at hg
 cases hg
 subst hn;refine⟨_,cap,rfl,hnc,hcx,.inr ⟨b,0,cur,T,(0,0),rfl,h2,?_⟩⟩;rw[List.drop_zero,htake];exact ZI h1 hr
theorem ZRm {ops:Array Oper} {Q:Exit→Act→World→Prop} {rest:List Oper} {o:Oper} {d:Nat} {f:FuncId} {args:Array Value} {b:Nat} {R:Value→Za→World→Prop} {i:Nat} {e:Loc} (hS:St K w0 v0 σ ℓ v a w) (hw:Region.wanted o (yielded ops a.tmps)=true) (hd:o.dst=some d) (hK:d<K)
  (hrun:(execOp a.eval o).run P w = .ok (.enter f args) w) (hi:ℓ[i]? = some e) (hb:e.blk=some b) (hc:Z8c P f args w v [b] R)
  (h:∀ x v' a w,v.le v'→R x v' w→(∀ e':Loc,e'.blk=some b→e'.holds w→v' b=none→St K w0 v0 ((d,x) :: σ) (ℓ.set i e') v' a w)→wpList P ops Q rest a w):wpList P ops Q (o :: rest) a w :=
 Zkc hw (ZXb hrun (Calls.mono hc λen w' ⟨r,v',e1,e2,e3,e4⟩=>⟨r,e1,by
  rw[hd]
  exact h r v' _ _ e3.le e4 λe' hb' hh hn=>(hS.afterL hi hb hb' e2 e3 hh hn).put r hK⟩))
theorem ZQp (hS:St K w0 v0 σ ℓ v a w) {i b n cap sz lo hi:Nat} {T:TypeId} {cs:List Value} (hi':ℓ[i]? = some (.own (some b) T sz n cap cs)) (h1:lo≤hi) (h2:hi≤n) :
  ∃ pre post,w.heap[b]? = some (.cells (pre++((cs.take (hi*sz)).drop (lo*sz))++post).toArray T (0,0))∧v b=none∧lo*sz=pre.length∧hi-lo≤cap-lo∧cap-lo≤maxLen ∧
   ∀ (w':World) (cs':List Value),cs'.length=(hi-lo)*sz→w'.heap[b]? = some (.cells (pre++cs'++post).toArray T (0,0))→(Loc.own (some b) T sz n cap (cs.take (lo*sz)++cs'++cs.drop (hi*sz))).holds w':=by
 obtain⟨⟨hcl,cur,hg,hnc,hcx,hcs,htake⟩,hv⟩:=hS.loc _ (mG hi');have m1:lo*sz≤hi*sz:=mR _ h1;have m2:hi*sz≤n*sz:=mR _ h2;have m3:n*sz≤cap*sz:=mR _ hnc;have hlen:cur.toList.length=cap*sz:=by simpa using hcs
 have ecs:cs=cur.toList.take (n*sz):=htake.symm;have e1:(cs.take (hi*sz)).drop (lo*sz)=(cur.toList.take (hi*sz)).drop (lo*sz):=by rw[ecs,List.take_take,Nat.min_eq_left m2]
 have e2:cur.toList.take (lo*sz)++(cs.take (hi*sz)).drop (lo*sz)++cur.toList.drop (hi*sz)=cur.toList:=by
  rw[e1];have:(cur.toList.take (hi*sz)).take (lo*sz)=cur.toList.take (lo*sz):=by rw[List.take_take,Nat.min_eq_left m1]
  rw[← this,List.take_append_drop,List.take_append_drop]
 refine⟨cur.toList.take (lo*sz),cur.toList.drop (hi*sz),by rw[e2];simpa using hg,(hv b rfl).2,by simp;omega,by omega,by omega,λw' cs' hl hg'=>?_⟩;have hsub:(hi-lo)*sz=hi*sz-lo*sz:=Nat.sub_mul _ _ _;rw[hsub]at hl;have hcsl:cs.length=n*sz:=hcl;have key:∀ p q r c:Nat,p≤q→q≤r→r≤c→cs'.length=q-p→cur.toList.length=c→cs=cur.toList.take r →
   (cs.take p++cs'++cs.drop q).length=r∧(cur.toList.take p++cs'++cur.toList.drop q).length=c∧(cur.toList.take p++cs'++cur.toList.drop q).take r=cs.take p++cs'++cs.drop q:=by
  intro p q r c hp hq hr hl hc e;have hp':(cur.toList.take p).length=p:=by rw[List.length_take,Nat.min_eq_left (by omega)]
  refine⟨?_,?_,?_⟩
  ·rw[e,List.take_take,Nat.min_eq_left (by omega),lA,lA,hp',List.length_drop,List.length_take,Nat.min_eq_left (by omega)];omega
  ·rw[lA,lA,hp',List.length_drop];omega
  ·rw[e,List.take_take,Nat.min_eq_left (by omega),List.take_append,List.take_of_length_le (by rw[lA,hp'];omega),List.drop_take,lA,hp'];congr 2;omega
 obtain⟨k1,k2,k3⟩:=key _ _ _ _ m1 m2 m3 hl hlen ecs;exact⟨k1,_,hg',hnc,hcx,by simpa using k2,by rw[List.toList_toArray];exact k3⟩
end Go.Eng
namespace Go.Eng
open Go.RowKit
variable {P:Program} {K:Nat} {w0:Base} {v0:Za} {σ:List (Nat×Value)} {ℓ:List Loc} {v:Za} {a:Act} {w:World}
variable {d:Option Nat} {ty:TypeId} {pos:String} {aft:Array Edge} {g:Option (Nat×Bool)}
theorem Zbs {t e ty:TypeId} {sz bytes:Nat} {z:Value} (E:Elem P t e sz bytes z) {n cap c:Nat} {q:Option Addr} (h:n≤cap) (w:World) :
  (Builtin.append_ #[t,t] ty #[.slice q n cap,.slice none 0 c]).run P w = .ok (.slice q n cap) w:=by
 obtain⟨inf,hinf,hz,hs,hby⟩:=info_parts E.info
 cases q <;> simp[Builtin.append_,run_underlying E.ty,sizeOf,typeInfo,hinf,Builtin.lenOf,Builtin.firstCells,h,storeCells]
theorem Zaf {α:Type} {A:Rep α} {t e ty:TypeId} {bytes:Nat} {z:Value} (E:Elem P t e A.n bytes z) (hS:St K w0 v0 σ ℓ v a w) {i n cap:Nat} {b:Option Nat} {cs:List Value} (hi:ℓ[i]? = some (.own b e A.n n cap cs))
  {q:Option Addr} {m c:Nat} {l:List α} (hr:(Zr A).rel v [.slice q m c] l) {n':Nat} (hn':n'=n+m) (hbytes:n'*bytes≤140737488355328) (hpos:0<bytes) :
  ∃ b' cap' cs2 w',(Builtin.append_ #[t,t] ty #[.slice (mkA b) n cap,.slice q m c]).run P w = .ok (.slice (mkA b') n' cap') w'∧St K w0 v0 σ (ℓ.set i (.own b' e A.n n' cap' (cs++cs2))) v a w'∧A.rels v cs2 l:=by
 obtain⟨q',c',eq,h1,h2,h3⟩:=hr
 cases eq
 have hrow:n≤cap:=by
  have:=(hS.loc _ (mG hi)).1
  cases b with
  | none=>obtain⟨h,_⟩:=this;omega
  | some b=>obtain⟨_,_,_,h,_⟩:=this;exact h
 cases q with
 | none =>
  have hl:l=[]:=by
   rcases h3 with h | ⟨_,_,_,_,_,e,_⟩
   ·exact h
   ·cases e
  subst hl;have hn2:n'=n:=by simpa using hn'
  rw[hn2];have hset:ℓ.set i (.own b e A.n n cap cs)=ℓ:=by
   apply List.ext_getElem?;intro j;by_cases hj:i=j
   ·subst hj;have hlt:i<ℓ.length:=(List.getElem?_eq_some_iff.1 hi).1;rw[List.getElem?_set_self hlt,hi]
   ·rw[List.getElem?_set_ne hj]
  refine⟨b,cap,[],w,Zbs E hrow w,?_,rfl⟩;rw[List.append_nil];show St K w0 v0 σ (ℓ.set i (.own b e A.n n cap cs)) v a w;rw[hset];exact hS
 | some ad =>
  by_cases hl0:l=[]
  ·subst hl0;obtain⟨b',cap',w',hr',hS'⟩:=ZQh (ty:=ty) E hS hi (ad:=ad) (m:=0) (c:=c) (news:=[]) (by simp) (by simp) rfl (n':=n') (by simpa using hn') hbytes hpos;exact⟨b',cap',[],w',hr',hS',rfl⟩
  ·rcases h3 with h | ⟨b1,off,cc,T,fr,e1,hb,hrel⟩
   ·exact absurd h hl0
   ·cases e1
    have hlen:=ZJb hrel;obtain⟨b',cap',w',hr',hS'⟩:=ZQh (ty:=ty) E hS hi (ad:=⟨b1,off,none⟩) (m:=l.length) (c:=c) (news:=(cc.toList.drop off).take (l.length*A.n)) hlen
     (λj u hj=>by
      have hw:WAt w b1 off ((cc.toList.drop off).take (l.length*A.n)):=⟨cc,T,fr,hS.vin _ _ hb,by rw[hlen]⟩;rw[ZYa];exact hw.cell hj) (Z9h hrel) hn' hbytes hpos
    exact⟨b',cap',_,w',hr',hS',hrel⟩
theorem ZLt (hS:St K w0 v0 σ ℓ v a w) {j n cap b sz:Nat} {T t e:TypeId} {cs:List Value} (hj:ℓ[j]? = some (.own (some b) T sz n cap cs)) (ht:Zsd P t e sz) {p r:Int} (h0:0≤p) (h1:p<r) (h2:r≤n)
  {d:Option Nat} {ty:TypeId} {pos:String} {aft:Array Edge} {g:Option (Nat×Bool)} {x lo hi:Operand} {k k':IntKind} (ex:ev σ x=some (.slice (mkA (some b)) n cap)) (el:ev σ lo=some (.int k p)) (eh:ev σ hi=some (.int k' r)) :
  (execOp a.eval ⟨d,.slice t x (some lo) (some hi) none,ty,pos,aft,g⟩).run P w = .ok (.value (.slice (some ⟨b,p.toNat*sz,none⟩) (r-p).toNat (cap-p.toNat))) w:=by
 obtain⟨_,cur,_,hnc,_⟩:=(hS.loc _ (mG hj)).1;have e1:(r-p).toNat=r.toNat-p.toNat:=by omega
 have hb:0≤r∧r≤cap:=by omega
 have hb':0≤p∧p≤(r.toNat:Int):=by omega
 have hb'':p≤max r 0:=by omega
 have hne:¬ cap=p.toNat:=by omega
 rw[e1];simp[execOp,Instr.sliceAt,Instr.slice,Instr.sliceBounds,Instr.sliceBound,asIntOf,hS.eval ex,hS.eval el,hS.eval eh,ht.1,ht.2,hb,hb',hb'',hne,mkA,ZYa]
def cutP {α:Type} (l:List α) (lo hi:Int):Option (List α):=if 0≤lo∧lo<hi∧hi≤l.length then some ((l.take hi.toNat).drop lo.toNat) else none
theorem ZAb {α:Type} {l y:List α} {lo hi:Int} (h:cutP l lo hi=some y):0≤lo∧lo<hi∧hi≤l.length∧y=(l.take hi.toNat).drop lo.toNat∧(hi-lo).toNat=y.length∧lo.toNat≤hi.toNat∧hi.toNat≤l.length:=by
 unfold cutP at h;split at h
 ·rename_i hh
  cases h
  refine⟨hh.1,hh.2.1,hh.2.2,rfl,?_,by omega,by omega⟩;rw[List.length_drop,List.length_take,Nat.min_eq_left (by omega)];omega
 ·cases h
theorem ZNp {α:Type} {A:Rep α} {v:Za} {cs:List Value} {l y:List α} {p r sz:Nat} (h:A.rels v cs l) (hsz:sz=A.n) (e:y=(l.take r).drop p):A.rels v ((cs.take (r*sz)).drop (p*sz)) y:=by
 subst hsz;subst e;exact ZZe p (Zsg r h)
theorem Zfr {α:Type} {A:Rep α} {v:Za} {cs cs':List Value} {l y:List α} {p r sz:Nat} (h:A.rels v cs l) (h':A.rels v cs' y) (hsz:sz=A.n):A.rels v (cs.take (p*sz)++cs'++cs.drop (r*sz)) (l.take p++y++l.drop r):=by
 subst hsz;exact ZTb (ZTb (Zsg p h) h') (ZZe r h)
theorem Zhq {α:Type} {l y:List α} {p r n:Nat} (hn:n=l.length) (hp:p≤r) (hr:r≤l.length) (hy:r-p=y.length):n=(l.take p++y++l.drop r).length:=by
 simp;omega
theorem Z5r {p r:Int} {cap:Nat} (h0:0≤p) (h1:p<r) (hc:r.toNat-p.toNat≤cap-p.toNat):(r-p).toNat≤cap-p.toNat:=by omega
end Go.Eng
namespace Go.Eng
open Go.RowKit
variable {P:Program} {K:Nat} {w0:Base} {v0:Za} {σ:List (Nat×Value)} {ℓ:List Loc} {v:Za} {a:Act} {w:World}
variable {d:Option Nat} {ty:TypeId} {pos:String} {aft:Array Edge} {g:Option (Nat×Bool)}
theorem St.boxOwn {b:Nat} {T:TypeId} {cs:List Value} (h:St K w0 v0 σ (.box b T cs :: ℓ) v a w) (sz n:Nat) (e:cs.length=n*sz) (hn:n≤maxLen):St K w0 v0 σ (.own (some b) T sz n n cs :: ℓ) v a w:=by
 refine⟨h.size,h.dfr,h.fr,h.ext,h.vst,λx hx=>?_,h.nd⟩;rcases List.mem_cons.1 hx with rfl | hx
 ·obtain⟨h1,h2⟩:=h.loc _ (List.mem_cons_self ..);exact⟨⟨e,cs.toArray,h1,Nat.le_refl _,hn,by simpa using e,by simp[← e]⟩,h2⟩
 ·exact h.loc x (List.mem_cons_of_mem _ hx)
def Znf (P:Program) (t:TypeId) (n sz:Nat):Prop:=∃ e,(∀ w,(underlying t).run P w = .ok (.array n e) w)∧∀ w,(sizeOf e).run P w = .ok sz w
theorem Zjn (hS:St K w0 v0 σ ℓ v a w) {t:TypeId} {n sz b o:Nat} {x i:Operand} {k:IntKind} {j:Int} (ht:Znf P t n sz) (e:ev σ x=some (.pointer (some ⟨b,o,none⟩))) (ei:ev σ i=some (.int k j)) (h0:0≤j) (h1:j<n) :
  (execOp a.eval ⟨d,.indexAddr t x i,ty,pos,aft,g⟩).run P w = .ok (.value (.pointer (some ⟨b,o+j.toNat*sz,none⟩))) w:=by
 obtain⟨et,h2,h3⟩:=ht;simp[execOp,Instr.indexAt,Instr.sureAddr,hS.eval e,hS.eval ei,asIntOf,h2,h3,h0,h1,ZYa]
def ZBh (b n lo:Nat):Value:=.slice (some (if n=lo then ⟨b,0,none⟩ else ⟨b,0+lo*1,none⟩)) (n-lo) (n-lo)
theorem Zeq (hS:St K w0 v0 σ ℓ v a w) {t:TypeId} {n b:Nat} {x lo:Operand} {k:IntKind} {j:Int} (ht:Znf P t n 1) (e:ev σ x=some (.pointer (some ⟨b,0,none⟩))) (ei:ev σ lo=some (.int k j)) (h0:0≤j) (h1:j≤n) :
  (execOp a.eval ⟨d,.slice t x (some lo) none none,ty,pos,aft,g⟩).run P w = .ok (.value (ZBh b n j.toNat)) w:=by
 obtain⟨et,h2,h3⟩:=ht;simp[execOp,Instr.sliceAt,Instr.sureAddr,hS.eval e,hS.eval ei,h2,h3,h0,h1,ZYa,Instr.sliceBounds,run_sliceBound,ZBh]
def ZDc (l:List Int):List UInt8:=l.map λn=>UInt8.ofNat n.toNat
theorem Zcp {k:IntKind} {v:Za}:∀ {cs:List Value} {l:List Int},Rep.rels (Zd k) v cs l→cs=l.map (Value.int k)
 | _,[],h=>h
 | _,x :: l,h=>by
  obtain⟨c1,c2,rfl,⟨h1,_⟩,h2⟩:=h
  rw[Zcp h2,h1];rfl
theorem ZHt (hS:St K w0 v0 σ ℓ v a w) {src dst e T:TypeId} {x:Operand} {j b n lo:Nat} {cs:List Value} {l:List Int} (hj:ℓ[j]? = some (.own (some b) T 1 n n cs)) (hr:Rep.rels (Zd .u8) v cs l) (hn:n=l.length) (hlo:lo≤n)
  (hx:ev σ x=some (ZBh b n lo)) (hs:P.underlying src=some (.slice e)) (he:P.underlying e=some (.int .u8)) (hd:P.underlying dst=some .string) :
  (execOp a.eval ⟨d,.convert src dst x,ty,pos,aft,g⟩).run P w = .ok (.value (.string (Zm (ZDc (l.drop lo))))) w:=by
 have hcs:=Zcp hr;have key:∀ q:Nat,(q=0+lo*1∨n=lo)→(convert src dst (.slice (some ⟨b,q,none⟩) (n-lo) (n-lo))).run P w = .ok (.string (Zm (ZDc (l.drop lo)))) w:=by
  intro q hq;have:=run_convert_bytes_arg (P:=P) w src e hs he b q (n-lo) (n-lo) (l.drop lo) (by simp[hn]) (λi hi=>by
   rcases hq with rfl | hq
   ·have hil:lo+i<l.length:=by omega
    have h1:=ZVj hS hj (lo+i) (.int .u8 l[lo+i]) (by rw[hcs];simp[hil]);rw[ZYa]at h1;rw[show 0+lo*1+i=0+(lo+i) by omega,h1];simp[List.getD,List.getElem?_drop,hil]
   ·omega) dst hd
  exact this
 simp only[execOp,hS.eval hx,ZBh];by_cases h:n=lo
 ·rw[iP h];have h1:=key 0 (.inr h);simp[h1]
 ·rw[iN h];have h1:=key _ (.inl rfl);simp only[Sem.run_bind,h1];rfl
theorem ZXs (l:List Int):(ZDc l).length=l.length:=by simp[ZDc]
end Go.Eng
namespace Go.Eng
open Go.RowKit
def rPtr {α:Type} (A:Rep α):Rep α where
 n:=1
 agg:=false
 rel v cs x:=∃ b o c,cs=[.pointer (some ⟨b,o,none⟩)]∧At v b o c∧A.rel v c x
 len h:=by obtain⟨_,_,_,rfl,_⟩:=h;rfl
 mono hv h:=by obtain⟨b,o,c,e,h1,h2⟩:=h;exact⟨b,o,c,e,h1.mono hv,A.mono hv h2⟩
 flat h:=by obtain⟨_,_,_,rfl,_⟩:=h;rfl
theorem rPtr_mk {α:Type} {A:Rep α} {v:Za} {b o:Nat} {c:List Value} {x:α} (h:At v b o c) (k:A.rel v c x):(rPtr A).rel v [.pointer (some ⟨b,o,none⟩)] x:=⟨b,o,c,rfl,h,k⟩
variable {P:Program} {K:Nat} {w0:Base} {v0:Za} {σ:List (Nat×Value)} {ℓ:List Loc} {v:Za} {a:Act} {w:World}
theorem St.pubVar (h:St K w0 v0 σ ℓ v a w) {i b:Nat} {T:TypeId} {cs:List Value} {ℓ':List Loc} (hi:ℓ[i]? = some (.box b T cs)) (hℓ:ℓ'=ℓ.eraseIdx i):∃ v',v.le v'∧St K w0 v0 σ ℓ' v' a w∧At v' b 0 cs:=by
 obtain⟨v',h1,h2,h3⟩:=h.pubBox hi hℓ;exact⟨v',h1,h2,at_box h3 0 cs (by simp)⟩
end Go.Eng
namespace Go.Eng
open Go.RowKit
variable {P:Program} {K:Nat} {w0:Base} {v0:Za} {σ:List (Nat×Value)} {ℓ:List Loc} {v:Za} {a:Act} {w:World}
variable {d:Option Nat} {ty:TypeId} {pos:String} {aft:Array Edge} {g:Option (Nat×Bool)}
theorem ZMr (hS:St K w0 v0 σ ℓ v a w) {x:Operand} {f:FuncId} {xs:Array Operand} {ats:Array TypeId} (vals caps:List Value) (hf:ZG P f) (e:ev σ x=some (.func (.func f) #[] caps.toArray))
  (h:xs.toList.map (ev σ)=vals.map some):(execOp a.eval ⟨d,.call ⟨.value x,xs,ats⟩,ty,pos,aft,g⟩).run P w = .ok (.enter f (vals++caps).toArray) w:=by
 have:=ZXk (d:=d) (ty:=ty) (pos:=pos) (aft:=aft) (g:=g) (ats:=ats) hS hf e h
 simpa using this
end Go.Eng
namespace Go.Eng
open Go.RowKit
variable {P:Program} {K:Nat} {w0:Base} {v0:Za} {σ:List (Nat×Value)} {ℓ:List Loc} {v:Za} {a:Act} {w:World}
variable {d:Option Nat} {ty:TypeId} {pos:String} {aft:Array Edge} {g:Option (Nat×Bool)}
theorem ZCl (hS:St K w0 v0 σ ℓ v a w) {t:TypeId} {n sz b o:Nat} {x i:Operand} {k:IntKind} {j:Int} (ht:Znf P t n sz) (e:ev σ x=some (.pointer (some ⟨b,o,none⟩))) (ei:ev σ i=some (.int k j)) (h0:0≤j) (h1:j<n) (q:Nat) (hq:o+j.toNat*sz=q) :
  (execOp a.eval ⟨d,.indexAddr t x i,ty,pos,aft,g⟩).run P w = .ok (.value (.pointer (some ⟨b,q,none⟩))) w:=by
 rw[Zjn hS ht e ei h0 h1,hq]
end Go.Eng
namespace Go.Eng
open Go.RowKit
theorem zl {a b:Nat} (h:Nat.ble a b=true:=by rfl):a≤b:=lB h
theorem wn {o:Oper} {y:Nat→Option Bool} (h:o.guard=none:=by rfl):Region.wanted o y=true:=Zqb h
section
variable {P:Program} {K:Nat} {w0:Base} {v0:Za} {σ σ':List (Nat×Value)} {ℓ:List Loc} {v:Za} {a:Act} {w:World}
variable {ops:Array Oper} {Q:Exit→Act→World→Prop} {rest:List Oper}
theorem ZIl {t:Nat} {x:Value}:∀ {σ:List (Nat×Value)},look σ t=some x→(t,x) ∈ σ
 | [],h=>by cases h
 | (k,y) :: r,h=>by
  by_cases hk:k=t
  ·subst hk;rw[ZRd rfl]at h;cases h;exact List.mem_cons_self ..
  ·rw[Z5e hk]at h;exact List.mem_cons_of_mem _ (ZIl h)
theorem St.fr' (h:St K w0 v0 σ ℓ v a w) (k:σ'.map (λp=>look σ p.1)=σ'.map (λp=>some p.2)):St K w0 v0 σ' ℓ v a w :=
 h.frame λt x e=>by
  have hm:=ZIl e
  have:∀ l:List (Nat×Value),l.map (λp=>look σ p.1)=l.map (λp=>some p.2)→(t,x) ∈ l→look σ t=some x:=by
   intro l
   induction l with
   | nil=>intro _ h;cases h
   | cons p l ih =>
    intro hl hp;simp only[List.map_cons,List.cons.injEq]at hl;rcases List.mem_cons.1 hp with rfl | hp
    ·exact hl.1
    ·exact ih hl.2 hp
  exact this σ' k hm
theorem ov {o:Oper} {d:Nat} {x:Value} (hS:St K w0 v0 σ ℓ v a w) (hc:(o.dst,o.guard,Nat.ble (d+1) K)=(some d,none,true)) (hrun:(execOp a.eval o).run P w = .ok (.value x) w)
  (h:∀ a,St K w0 v0 ((d,x) :: σ) ℓ v a w→wpList P ops Q rest a w):wpList P ops Q (o :: rest) a w :=
 op_v hS (Zqb (Prod.mk.inj (Prod.mk.inj hc).2).1) (Prod.mk.inj hc).1 (lB (Prod.mk.inj (Prod.mk.inj hc).2).2) hrun h
theorem mv {d:Nat} {x:Operand} {y:Value} {ty:TypeId} {pos:String} {aft:Array Edge} (hS:St K w0 v0 σ ℓ v a w) (hc:(ev σ x,Nat.ble (d+1) K)=(some y,true))
  (h:∀ a,St K w0 v0 ((d,y) :: σ) ℓ v a w→wpList P ops Q rest a w):wpList P ops Q (⟨some d,.move x,ty,pos,aft,none⟩ :: rest) a w :=
 op_v hS (Zqb rfl) rfl (lB (Prod.mk.inj hc).2) (ZS hS (Prod.mk.inj hc).1) h
theorem mw {d:Nat} {x:Operand} {y:Value} {ty:TypeId} {pos:String} {aft:Array Edge} (hS:St K w0 v0 σ ℓ v a w) (hc:(ev σ x,Nat.ble (d+1) K)=(some y,true))
  (h:∀ a,St K w0 v0 ((d,y) :: σ) ℓ v a w→wpList P ops Q rest a w):wpList P ops Q (⟨some d,.assign x,ty,pos,aft,none⟩ :: rest) a w :=
 op_v hS (Zqb rfl) rfl (lB (Prod.mk.inj hc).2) (ZTd hS (Prod.mk.inj hc).1) h
theorem ob {d T:Nat} {x:Operand} {y:Value} {cs:List Value} {ty:TypeId} {pos:String} {aft:Array Edge} (hS:St K w0 v0 σ ℓ v a w) (hc:(ev σ x,Nat.ble (d+1) K)=(some y,true)) (hy:y.cells=cs.toArray)
  (h:∀ b a w,St K w0 v0 ((d,.pointer (some ⟨b,0,none⟩)) :: σ) (.box b T cs :: ℓ) v a w→wpList P ops Q rest a w):wpList P ops Q (⟨some d,.box T x,ty,pos,aft,none⟩ :: rest) a w :=
 Zno hS (Zqb rfl) rfl (lB (Prod.mk.inj hc).2) (by rw[← hy];exact ZUo hS (Prod.mk.inj hc).1) h
theorem sr {ops:Array Oper} {n:Nat} {y:Code} (h:wpList P ops (Exit.then (y.wp P Q) Q) ops.toList a w):(Code.seq (.region n ops false) y).wp P Q a w:=wp_seq (wp_region_lit h)
theorem oe {y:Code} (h:y.wp P Q a w):wpList P ops (Exit.then (y.wp P Q) Q) [] a w:=ZD (Zo h)
theorem rf {l:List Oper} {fl E:Array Bool} {o:Oper} {d:Nat} {x:Value} (hops:ops=l.toArray) (hF:OkF ops fl) (f:Nat) (hi:l[f]? = some o) (hc:(fl.getD f false&&(Region.ready .any l.toArray E).contains f)=true) (h3:(o.dst,o.guard,Nat.ble (d+1) K)=(some d,none,true))
  (hS:St K w0 v0 σ ℓ v a w) (hrun:(execOp a.eval o).run P w = .ok (.value x) w) (h:∀ a,St K w0 v0 ((d,x) :: σ) ℓ v a w→Rg P ops Q fl (E.setIfInBounds f true) a w):Rg P ops Q fl E a w :=
 ZDr hops hF f hi ⟨(Bool.and_eq_true_iff.1 hc).1,(Bool.and_eq_true_iff.1 hc).2,rfl⟩ (Prod.mk.inj h3).1 (lB (Prod.mk.inj (Prod.mk.inj h3).2).2) hS (Zqb (Prod.mk.inj (Prod.mk.inj h3).2).1) hrun h
def ZSd (l:List Oper) (fl E:Array Bool) (p:Nat) (A J:List Nat):Bool :=
 Zzd l.toArray p [] A&&((List.range l.length).all λj=>!(E.getD j false&&fl.getD j false) || A.contains j || J.contains j)
theorem Z4i {l:List Oper} {fl E:Array Bool} {p:Nat} {A J:List Nat} (h:ZSd l fl E p A J=true):okP l fl E (E.setIfInBounds p true) p A J=true:=by
 unfold okP;unfold ZSd at h;rw[h];simp
theorem nv {l:List Oper} {fl E:Array Bool} {p d:Nat} {o:Oper} {x:Value} (A J:List Nat) (hops:ops=l.toArray) (hi:l[p]? = some o) (hP:ZSd l fl E p A J=true) (h3:(o.dst,o.guard,Nat.ble (d+1) K)=(some d,none,true)) (hS:St K w0 v0 σ ℓ v a w)
  (hrun:(execOp a.eval o).run P w = .ok (.value x) w) (h:∀ a,St K w0 v0 ((d,x) :: σ) ℓ v a w→Zgb P ops l a w J∧Rg P ops Q fl (E.setIfInBounds p true) a w):Next P ops Q fl E a w p :=
 nx_v A J hops hi (Z4i hP) hS (Zqb (Prod.mk.inj (Prod.mk.inj h3).2).1) (Prod.mk.inj h3).1 (lB (Prod.mk.inj (Prod.mk.inj h3).2).2) hrun h
theorem py {l:List Oper} {J:List Nat} {j d:Nat} {o:Oper} {x:Value} (hS:St K w0 v0 σ ℓ v a w) (hi:l[j]? = some o) (h3:(o.dst,look σ d,o.guard)=(some d,some x,none)) (hrun:(execOp a.eval o).run P w = .ok (.value x) w)
  (r:Zgb P ops l a w J):Zgb P ops l a w (j :: J):=Z8s hS hi (Prod.mk.inj h3).1 (Prod.mk.inj (Prod.mk.inj h3).2).1 (Zqb (Prod.mk.inj (Prod.mk.inj h3).2).2) hrun r
theorem ZTs {l:List Oper} {fl E:Array Bool} {p d:Nat} {o:Oper} {f:FuncId} {args:Array Value} {R:Value→Za→Prop} (A J:List Nat) (hops:ops=l.toArray) (hi:l[p]? = some o) (hP:ZSd l fl E p A J=true) (hS:St K w0 v0 σ ℓ v a w) (hw:Region.wanted o (yielded ops a.tmps)=true) (hd:o.dst=some d) (hK:d<K)
  (hrun:(execOp a.eval o).run P w = .ok (.enter f args) w) (hc:Ret P f args w v R)
  (h:∀ x v' a w,v.le v'→R x v'→St K w0 v0 ((d,x) :: σ) ℓ v' a w→Zgb P ops l a w J∧Rg P ops Q fl (E.setIfInBounds p true) a w):Next P ops Q fl E a w p:=nx_call A J hops hi (Z4i hP) hS hw hd hK hrun hc h
theorem Znq {l:List Oper} {fl E:Array Bool} {p:Nat} {o:Oper} {w':World} (A J:List Nat) (hops:ops=l.toArray) (hi:l[p]? = some o) (hP:ZSd l fl E p A J=true) (hw:Region.wanted o (yielded ops a.tmps)=true) (hd:o.dst=none)
  (hrun:(execOp a.eval o).run P w = .ok .skip w') (h:Zgb P ops l a w' J∧Rg P ops Q fl (E.setIfInBounds p true) a w'):Next P ops Q fl E a w p:=nx_skip A J hops hi (Z4i hP) hw hd hrun h
end
end Go.Eng
namespace Go.Eng
open Go.RowKit
section
variable {P:Program} {K:Nat} {w0:Base} {v0:Za} {σ σ':List (Nat×Value)} {ℓ:List Loc} {v:Za} {a:Act} {w:World}
variable {ops:Array Oper} {Q:Exit→Act→World→Prop} {rest:List Oper}
theorem rfa {l:List Oper} {fl E:Array Bool} {o:Oper} {d:Nat} {x:Value} (hops:ops=l.toArray) (hF:OkF ops fl) (f:Nat) (hi:l[f]? = some o) (h3:(o.dst,o.guard,Nat.ble (d+1) K)=(some d,none,true))
  (hS:St K w0 v0 σ ℓ v a w) (hrun:(execOp a.eval o).run P w = .ok (.value x) w) (h:∀ a,St K w0 v0 ((d,x) :: σ) ℓ v a w→Rg P ops Q fl (E.setIfInBounds f true) a w)
  (hc:(fl.getD f false&&(Region.ready .any l.toArray E).contains f)=true:=by kernel_rfl):Rg P ops Q fl E a w:=rf hops hF f hi hc h3 hS hrun h
theorem go1 {l:List Oper} {fl E:Array Bool} (hops:ops=l.toArray) (hF:OkF ops fl) (p:Nat) (h:Next P ops Q fl E a w p) (hr:Region.ready .any l.toArray E=[p]:=by kernel_rfl):Rg P ops Q fl E a w:=rg_go1 hops hF p hr h
theorem fin1 {l:List Oper} {fl E:Array Bool} (hops:ops=l.toArray) (hF:OkF ops fl) (h:Q .normal a w) (hr:Region.ready .any l.toArray E=[]:=by kernel_rfl):Rg P ops Q fl E a w:=rg_fin hops hF hr h
theorem nva {l:List Oper} {fl E:Array Bool} {p d:Nat} {o:Oper} {x:Value} (A J:List Nat) (hops:ops=l.toArray) (hi:l[p]? = some o) (h3:(o.dst,o.guard,Nat.ble (d+1) K)=(some d,none,true)) (hS:St K w0 v0 σ ℓ v a w)
  (hrun:(execOp a.eval o).run P w = .ok (.value x) w) (h:∀ a,St K w0 v0 ((d,x) :: σ) ℓ v a w→Zgb P ops l a w J∧Rg P ops Q fl (E.setIfInBounds p true) a w) (hP:ZSd l fl E p A J=true:=by kernel_rfl):Next P ops Q fl E a w p:=nv A J hops hi hP h3 hS hrun h
theorem nxc {l:List Oper} {fl E:Array Bool} {p d:Nat} {o:Oper} {f:FuncId} {args:Array Value} {R:Value→Za→Prop} (A J:List Nat) (hops:ops=l.toArray) (hi:l[p]? = some o) (hS:St K w0 v0 σ ℓ v a w) (hd:o.dst=some d)
  (hrun:(execOp a.eval o).run P w = .ok (.enter f args) w) (hc:Ret P f args w v R)
  (h:∀ x v' a w,v.le v'→R x v'→St K w0 v0 ((d,x) :: σ) ℓ v' a w→Zgb P ops l a w J∧Rg P ops Q fl (E.setIfInBounds p true) a w)
  (hP:ZSd l fl E p A J=true:=by kernel_rfl) (hw:o.guard=none:=by rfl) (hK:Nat.ble (d+1) K=true:=by rfl):Next P ops Q fl E a w p:=ZTs A J hops hi hP hS (Zqb hw) hd (lB hK) hrun hc h
theorem nxs {l:List Oper} {fl E:Array Bool} {p:Nat} {o:Oper} {w':World} (A J:List Nat) (hops:ops=l.toArray) (hi:l[p]? = some o) (hd:o.dst=none)
  (hrun:(execOp a.eval o).run P w = .ok .skip w') (h:Zgb P ops l a w' J∧Rg P ops Q fl (E.setIfInBounds p true) a w')
  (hP:ZSd l fl E p A J=true:=by kernel_rfl) (hw:o.guard=none:=by rfl):Next P ops Q fl E a w p:=Znq A J hops hi hP (Zqb hw) hd hrun h
theorem opc {o:Oper} {d:Nat} {f:FuncId} {args:Array Value} {R:Value→Za→Prop} (hS:St K w0 v0 σ ℓ v a w) (hd:o.dst=some d)
  (hrun:(execOp a.eval o).run P w = .ok (.enter f args) w) (hc:Ret P f args w v R)
  (h:∀ x v' a w,v.le v'→R x v'→St K w0 v0 ((d,x) :: σ) ℓ v' a w→wpList P ops Q rest a w) (hw:o.guard=none:=by rfl) (hK:Nat.ble (d+1) K=true:=by rfl):wpList P ops Q (o :: rest) a w:=op_call hS (Zqb hw) hd (lB hK) hrun hc h
theorem opn {o:Oper} {d:Nat} {gi t:Nat} {want:Bool} (hS:St K w0 v0 σ ℓ v a w) (hg:o.guard=some (gi,want)) (hgd:(ops[gi]?).bind (·.dst)=some t) (ht:look σ t=some (.bool !want)) (hd:o.dst=some d)
  (h:∀ a,St K w0 v0 ((d,undef) :: σ) ℓ v a w→wpList P ops Q rest a w) (hK:Nat.ble (t+1) K=true:=by rfl) (hK':Nat.ble (d+1) K=true:=by rfl):wpList P ops Q (o :: rest) a w:=Znd hS (Ztg hS hg hgd ht (lB hK)) hd (lB hK') h
theorem opy {o:Oper} {d:Nat} {x:Value} {gi t:Nat} {want:Bool} (hS:St K w0 v0 σ ℓ v a w) (hg:o.guard=some (gi,want)) (hgd:(ops[gi]?).bind (·.dst)=some t) (ht:look σ t=some (.bool want)) (hd:o.dst=some d) (hrun:(execOp a.eval o).run P w = .ok (.value x) w)
  (h:∀ a,St K w0 v0 ((d,x) :: σ) ℓ v a w→wpList P ops Q rest a w) (hK:Nat.ble (t+1) K=true:=by rfl) (hK':Nat.ble (d+1) K=true:=by rfl):wpList P ops Q (o :: rest) a w:=op_v hS (Zjg hS hg hgd ht (lB hK)) hd (lB hK') hrun h
theorem la {d:Option Nat} {ty:TypeId} {pos:String} {aft:Array Edge} {g:Option (Nat×Bool)} (hS:St K w0 v0 σ ℓ v a w) {t T:TypeId} {x:Operand} {n b off:Nat} {cs cs0:List Value} (e:ev σ x=some (.pointer (some ⟨b,off,none⟩))) (ht:Sized P t n true)
  (i:Nat) (k:ℓ[i]? = some (.box b T cs0)) (hs:(cs0.drop off).take cs.length=cs) (hn:cs.length=n):(execOp a.eval ⟨d,.load t x,ty,pos,aft,g⟩).run P w = .ok (.value (.agg cs.toArray)) w :=
 ZGo hS e ht hn (hS.box k off cs hs)
theorem lo {d:Option Nat} {ty:TypeId} {pos:String} {aft:Array Edge} {g:Option (Nat×Bool)} (hS:St K w0 v0 σ ℓ v a w) {t T:TypeId} {x:Operand} {n b off:Nat} {y:Value} {cs0:List Value} (e:ev σ x=some (.pointer (some ⟨b,off,none⟩))) (ht:Sized P t n false)
  (i:Nat) (k:ℓ[i]? = some (.box b T cs0)) (hs:(cs0.drop off).take 1=[y]):(execOp a.eval ⟨d,.load t x,ty,pos,aft,g⟩).run P w = .ok (.value y) w :=
 ZQa hS e ht (hS.box k off [y] hs)
end
end Go.Eng
namespace Go.Eng
open Go.RowKit
section
variable {P:Program} {K:Nat} {w0:Base} {v0:Za} {σ σ':List (Nat×Value)} {ℓ:List Loc} {v:Za} {a:Act} {w:World}
end
end Go.Eng
namespace Go.Eng
open Go.RowKit
section
variable {K:Nat} {w0:Base} {v0:Za} {σ:List (Nat×Value)} {ℓ:List Loc} {v:Za} {a:Act} {w:World} {P:Program} {d:Option Nat} {ty:TypeId} {pos:String} {aft:Array Edge} {g:Option (Nat×Bool)}
end
end Go.Eng
namespace Go.Eng
open Go.RowKit
structure HD where
 d:Nat
 T:TypeId
 cs:List Value
section
variable {P:Program} {K:Nat} {w0:Base} {v0:Za} {σ:List (Nat×Value)} {ℓ:List Loc} {v:Za} {a:Act} {w:World}
variable {ops:Array Oper} {Q:Exit→Act→World→Prop}
theorem St.sub {ℓ1 ℓ2:List Loc} (h:St K w0 v0 σ (ℓ1++ℓ2) v a w):St K w0 v0 σ ℓ2 v a w :=
 ⟨h.size,h.dfr,h.fr,h.ext,h.vst,λe he=>h.loc e (List.mem_append_right _ he),by have:=h.nd;rw[List.filterMap_append]at this;exact (List.nodup_append.1 this).2.1⟩
def hs (g:Nat→HD) (X:List Nat) (β:Nat→Nat):List Loc:=X.map λi=>.box (β i) (g i).T (g i).cs
def hp (g:Nat→HD) (X:List Nat) (β:Nat→Nat):List (Nat×Value):=X.map λi=>((g i).d,.pointer (some ⟨β i,0,none⟩))
end
end Go.Eng
namespace Go.Eng
open Go.RowKit
def rFloat (k:FloatKind):Rep Nat where
 n:=1
 agg:=false
 rel v cs x:=cs=[.float k x]∧x<18446744073709551616
 len h:=by obtain⟨rfl,_⟩:=h;rfl
 mono _ h:=h
 flat h:=by obtain⟨rfl,_⟩:=h;rfl
section
variable {P:Program} {K:Nat} {w0:Base} {v0:Za} {σ:List (Nat×Value)} {ℓ:List Loc} {v:Za} {a:Act} {w:World}
variable {d:Option Nat} {ty:TypeId} {pos:String} {aft:Array Edge} {g:Option (Nat×Bool)}
end
end Go.Eng
namespace Go.Eng
open Go.RowKit
section
variable {P:Program} {K:Nat} {w0:Base} {v0:Za} {σ:List (Nat×Value)} {ℓ:List Loc} {v:Za} {a:Act} {w:World}
variable {d:Option Nat} {ty:TypeId} {pos:String} {aft:Array Edge} {g:Option (Nat×Bool)}
end
end Go.Eng
namespace Go.Eng
open Go.RowKit
def Zc (B:Nat) (n:Nat):List Int:=if h:n=0∨B<2 then [] else ((n%B:Nat):Int) :: Zc B (n / B)
termination_by n
decreasing_by exact Nat.div_lt_self (by omega) (by omega)
def rW:Rep (List Int):=Zr (Zd .u64)
def rW32:Rep (List Int):=Zr (Zd .u32)
def Zn:Rep Nat:=rW.via (Zc 18446744073709551616)
def ZAa:Rep Nat:=rW32.via (Zc 4294967296)
def ZMb:Rep Int:=(ZQb Zec Zn).via λi=>(decide (i<0),i.natAbs)
def ZX (d:Nat):Nat:=if d=1 then 0 else d
def rRat:Rep Rat:=(ZQb ZMb Zn).via λq=>(q.num,ZX q.den)
def rQ:Rep Rat:=(ZQb Zec (ZQb ZAa ZAa)).via λq=>(decide (q.num<0),q.num.natAbs,q.den)
theorem ZNe {α:Type} {A:Rep α} {v:Za} {cs:List Value} {l:List α} (h:(Zr A).rel v cs l):∃ q n k,cs=[.slice q n k]:=by
 obtain⟨q,cap,e,_⟩:=h;exact⟨q,_,cap,e⟩
theorem Zoa {v:Za} {cs:List Value} {n:Nat} (h:Zn.rel v cs n):∃ q n k,cs=[.slice q n k]:=ZNe (A:=Zd .u64) h
theorem Zzc {v:Za} {cs:List Value} {n:Nat} (h:ZAa.rel v cs n):∃ q n k,cs=[.slice q n k]:=ZNe (A:=Zd .u32) h
theorem Zah {v:Za} {cs:List Value} {i:Int} (h:ZMb.rel v cs i):∃ s q n k,cs=[.bool s,.slice q n k]:=by
 obtain⟨c1,c2,rfl,h1,h2⟩:=h;obtain⟨q,n,k,rfl⟩:=Zoa h2;exact⟨_,q,n,k,by rw[show c1=_ from h1];rfl⟩
theorem Z4p {v:Za} {cs:List Value} {q:Rat} (h:rRat.rel v cs q):∃ s q n k q' n' k',cs=[.bool s,.slice q n k,.slice q' n' k']:=by
 obtain⟨c1,c2,rfl,h1,h2⟩:=h;obtain⟨s,q,n,k,rfl⟩:=Zah h1;obtain⟨q',n',k',rfl⟩:=Zoa h2;exact⟨s,q,n,k,q',n',k',rfl⟩
theorem ZCr {v:Za} {cs:List Value} {q:Rat} (h:rQ.rel v cs q):∃ s q n k q' n' k',cs=[.bool s,.slice q n k,.slice q' n' k']:=by
 obtain⟨c1,c23,rfl,h1,c2,c3,rfl,h2,h3⟩:=h;obtain⟨q,n,k,rfl⟩:=Zzc h2;obtain⟨q',n',k',rfl⟩:=Zzc h3;exact⟨_,q,n,k,q',n',k',by rw[show c1=_ from h1];rfl⟩
theorem Z8 (B:Nat):Zc B 0=[]:=by unfold Zc;simp
theorem ZCg (v:Za):Zn.rel v [.slice none 0 0] 0:=by
 show (Zr (Zd .u64)).rel v _ (Zc _ 0);rw[Z8];exact Zdg _ v
theorem ZWg (v:Za):ZAa.rel v [.slice none 0 0] 0:=by
 show (Zr (Zd .u32)).rel v _ (Zc _ 0);rw[Z8];exact Zdg _ v
theorem Z0n (v:Za):ZMb.rel v [.bool false,.slice none 0 0] 0:=⟨[.bool false],[.slice none 0 0],rfl,rfl,ZCg v⟩
theorem Zgs (v:Za):rRat.rel v [.bool false,.slice none 0 0,.slice none 0 0] 0:=⟨[.bool false,.slice none 0 0],[.slice none 0 0],rfl,Z0n v,ZCg v⟩
theorem ZBf {σ ρ:Type} {body:σ→Option (σ ⊕ ρ)} (I:σ→Prop) (μ:σ→Nat) (Q:ρ→Prop)
  (h:∀ s,I s→(∃ s',body s=some (.inl s')∧I s'∧μ s'<μ s) ∨ ∃ r,body s=some (.inr r)∧Q r) :
  ∀ (n:Nat) (s:σ),I s→μ s<n→∃ r,Zp body n s=some r∧Q r:=by
 intro n
 induction n with
 | zero=>intro s _ h;omega
 | succ n ih =>
  intro s hs hn;rcases h s hs with ⟨s',e,h1,h2⟩ | ⟨r,e,h1⟩
  ·obtain⟨r,e2,h3⟩:=ih s' h1 (by omega);exact⟨r,by simp only[Zp,e,bnd];exact e2,h3⟩
  ·exact⟨r,by simp only[Zp,e,bnd],h1⟩
theorem Zyj {σ ρ:Type} {body:σ→Option (σ ⊕ ρ)} (I:σ→Prop) (μ:σ→Nat) {r:ρ} {n:Nat} {s:σ} (hs:I s) (hn:μ s<n)
  (h:∀ s,I s→(∃ s',body s=some (.inl s')∧I s'∧μ s'<μ s)∨body s=some (.inr r)):Zp body n s=some r:=by
 obtain⟨r',e,rfl⟩:=ZBf I μ (· = r) (λs hs=>(h s hs).imp_right λe=>⟨r,e,rfl⟩) n s hs hn;exact e
theorem Z5a {σ ρ β:Type} {body:σ→Option (σ ⊕ ρ)} {f:ρ→Option β} {z:β} {n:Nat} {s:σ} (I:σ→Prop) (μ:σ→Nat) (Q:ρ→Prop) (hs:I s) (hn:μ s<n)
  (h:∀ s,I s→(∃ s',body s=some (.inl s')∧I s'∧μ s'<μ s) ∨ ∃ r,body s=some (.inr r)∧Q r) (hf:∀ r,Q r→f r=some z):bnd (Zp body n s) f=some z:=by
 obtain⟨r,e,hq⟩:=ZBf I μ Q h n s hs hn;rw[e];exact hf r hq
theorem ZPa {α β γ:Type} (x:Option α) (f:α→Option β) (g:β→Option γ):bnd (bnd x f) g=bnd x (λr=>bnd (f r) g):=by cases x <;> rfl
theorem Z7 {n:Nat} (h:n<2^65):n<Zy:=Nat.lt_of_lt_of_le h (by unfold Zy;exact Nat.pow_le_pow_right (by omega) (by omega))
theorem Zs {x:Int} (h:-9223372036854775808≤x) (h':x≤9223372036854775807):chk .i64 x=some x:=ZNn (ZZa.2 ⟨h,h'⟩)
theorem ZF {α:Type} {l:List α} {i:Nat} (h:i<l.length):idx l (i:Int)=some l[i]:=by simp[idx,h]
theorem Zb {α β:Type} (x:α) (f:α→Option β):bnd (some x) f=f x:=(rfl:bnd (some x) f=f x).trans rfl
theorem Zk {α:Type} (x y:Option α):ifb true x y=x:=(rfl:ifb true x y=x).trans rfl
theorem Zj {α:Type} (x y:Option α):ifb false x y=y:=(rfl:ifb false x y=y).trans rfl
def val (B:Nat):List Int→Nat
 | []=>0
 | x :: l=>x.toNat+B*val B l
def Dig (B:Nat) (l:List Int):Prop:=∀ x ∈ l,0≤x∧x<B
theorem Dig.nil {B:Nat}:Dig B []:=λ_ h=>by cases h
theorem Dig.cons {B:Nat} {x:Int} {l:List Int}:Dig B (x :: l)↔(0≤x∧x<B)∧Dig B l:=by simp[Dig]
theorem Dig.append {B:Nat} {l l':List Int}:Dig B (l++l')↔Dig B l∧Dig B l':=by
 simp only[Dig,List.mem_append];exact⟨λh=>⟨λx hx=>h x (.inl hx),λx hx=>h x (.inr hx)⟩,λh x hx=>hx.elim (h.1 x) (h.2 x)⟩
theorem Dig.take {B:Nat} {l:List Int} (h:Dig B l) (n:Nat):Dig B (l.take n):=λx hx=>h x (List.mem_of_mem_take hx)
theorem Dig.drop {B:Nat} {l:List Int} (h:Dig B l) (n:Nat):Dig B (l.drop n):=λx hx=>h x (List.mem_of_mem_drop hx)
theorem Dig.get {B:Nat} {l:List Int} (h:Dig B l) {i:Nat} (hi:i<l.length):0≤l[i]∧l[i]<B:=h _ (List.getElem_mem hi)
theorem Dig.set {B:Nat} {l:List Int} (h:Dig B l) (i:Nat) {x:Int} (hx:0≤x∧x<B):Dig B (l.set i x):=λy hy=>by
 rcases List.mem_or_eq_of_mem_set hy with hy | rfl
 ·exact h y hy
 ·exact hx
theorem Dig.replicate {B:Nat} (n:Nat) {x:Int} (hx:0≤x∧x<B):Dig B (List.replicate n x):=λy hy=>by rw[(List.mem_replicate.1 hy).2];exact hx
theorem Ztc (B:Nat) (l l':List Int):val B (l++l')=val B l+B^l.length*val B l':=by
 induction l with
 | nil=>simp[val]
 | cons x l ih=>simp only[List.cons_append,val,ih,List.length_cons,Nat.pow_succ];grind
theorem ZBc {B:Nat} {l:List Int} (h:Dig B l):val B l<B^l.length:=by
 induction l with
 | nil=>simp[val]
 | cons x l ih =>
  have h1:=(Dig.cons.1 h).1;have h2:=ih (Dig.cons.1 h).2;simp only[val,List.length_cons,Nat.pow_succ];have h3:B*(val B l+1)≤B*B^l.length:=Nat.mul_le_mul_left _ h2;have h4:x.toNat<B:=by omega
  rw[Nat.mul_comm (B^l.length) B];rw[Nat.mul_add]at h3;omega
theorem Zyb {B:Nat} {l:List Int} {i:Nat} (hi:i<l.length):val B (l.take (i+1))=val B (l.take i)+B^i*l[i].toNat:=by
 rw[List.take_succ_eq_append_getElem hi,Ztc];simp[val,List.length_take,Nat.min_eq_left (Nat.le_of_lt hi)]
theorem Z8m (B n:Nat):val B (List.replicate n 0)=0:=by
 induction n with
 | zero=>rfl
 | succ n ih=>simp[List.replicate_succ,val,ih]
theorem Z6b {B:Nat} {l:List Int} {i:Nat} (hi:i<l.length):val B (l.drop i)=l[i].toNat+B*val B (l.drop (i+1)):=by
 rw[List.drop_eq_getElem_cons hi];rfl
theorem Zxc (B:Nat) (l:List Int) (i:Nat) (hi:i≤l.length):val B l=val B (l.take i)+B^i*val B (l.drop i):=by
 conv=>lhs;rw[← List.take_append_drop i l]
 rw[Ztc,List.length_take,Nat.min_eq_left hi]
theorem ZOh {B:Nat} {l:List Int} {i:Nat} {x:Int} (hi:i<l.length):val B (l.set i x)+B^i*l[i].toNat=val B l+B^i*x.toNat:=by
 have e:l.set i x=l.take i++(x :: l.drop (i+1)):=by rw[List.set_eq_take_append_cons_drop,iP hi]
 rw[e,Ztc,List.length_take,Nat.min_eq_left (Nat.le_of_lt hi),Zxc B l i (Nat.le_of_lt hi),Z6b hi];simp only[val];grind
def Cut (l:List Int):Prop:=∀ x,l.getLast? = some x→x≠0
theorem ZLd {B n:Nat} (hB:2≤B) (hn:n≠0):Zc B n=((n%B:Nat):Int) :: Zc B (n / B):=by
 rw[Zc];rw[dif_neg (by omega)]
theorem ZVa {B:Nat} (hB:2≤B) (n:Nat):val B (Zc B n)=n:=by
 induction n using Nat.strongRecOn with
 | ind n ih =>
  by_cases h:n=0
  ·subst h;rw[Z8];rfl
  ·rw[ZLd hB h];simp only[val];rw[ih _ (Nat.div_lt_self (by omega) (by omega))];rw[tN];exact Nat.mod_add_div n B
theorem Zdb {B:Nat} (hB:2≤B) (n:Nat):Dig B (Zc B n):=by
 induction n using Nat.strongRecOn with
 | ind n ih =>
  by_cases h:n=0
  ·subst h;rw[Z8];exact Dig.nil
  ·rw[ZLd hB h,Dig.cons];have:=Nat.mod_lt n (show 0<B by omega);exact⟨by omega,ih _ (Nat.div_lt_self (by omega) (by omega))⟩
theorem Z5g {B n:Nat} (hB:2≤B):Zc B n=[]↔n=0:=by
 constructor
 ·intro h;have:=ZVa hB n;rw[h]at this;exact this.symm
 ·rintro rfl;exact Z8 B
theorem Zgh {B:Nat} (hB:2≤B) (n:Nat):Cut (Zc B n):=by
 induction n using Nat.strongRecOn with
 | ind n ih =>
  by_cases h:n=0
  ·subst h;rw[Z8];intro x hx;cases hx
  ·rw[ZLd hB h];intro x hx;by_cases h2:n / B=0
   ·rw[h2,Z8]at hx;simp at hx;have:=Nat.mod_add_div n B;rw[h2]at this;omega
   ·have h3:Zc B (n / B)≠[]:=λe=>h2 ((Z5g hB).1 e);rw[List.getLast?_cons_of_ne_nil h3]at hx;exact ih _ (Nat.div_lt_self (by omega) (by omega)) x hx
theorem Zdf {B:Nat} (hB:2≤B):∀ {l:List Int},Dig B l→Cut l→Zc B (val B l)=l
 | [],_,_=>Z8 B
 | x :: l,h,c=>by
  obtain⟨hx,hl⟩:=Dig.cons.1 h
  have e:val B (x :: l)≠0:=by
   intro e;simp only[val]at e;have hv:val B l=0:=by
    have:B*val B l=0:=by omega
    rcases Nat.mul_eq_zero.1 this with h | h
    ·omega
    ·exact h
   by_cases hl0:l=[]
   ·subst hl0;have:=c x (by simp);omega
   ·have c':Cut l:=λy hy=>c y (by rw[List.getLast?_cons_of_ne_nil hl0];exact hy);have:=Zdf hB hl c';rw[hv,Z8]at this;exact hl0 this.symm
  have c':Cut l:=by
   intro y hy;have hl0:l≠[]:=by rintro rfl;cases hy
   exact c y (by rw[List.getLast?_cons_of_ne_nil hl0];exact hy)
  rw[ZLd hB e];have h1:val B (x :: l)%B=x.toNat:=by simp only[val];rw[Nat.add_mul_mod_self_left];exact Nat.mod_eq_of_lt (by omega)
  have h2:val B (x :: l) / B=val B l:=by
   simp only[val];rw[Nat.add_mul_div_left _ _ (by omega:0<B),Nat.div_eq_of_lt (by omega)];omega
  rw[h1,h2,Zdf hB hl c'];congr 1;omega
theorem ZAj {B n:Nat} (h0:n≠0) (h:n<B):Zc B n=[(n:Int)]:=by
 rw[ZLd (by omega) h0,Nat.mod_eq_of_lt h,Nat.div_eq_of_lt h,Z8]
theorem Zui {B:Nat} (hB:2≤B) {n k:Nat} (h:n<B^k):(Zc B n).length≤k:=by
 induction k generalizing n with
 | zero=>simp at h;subst h;rw[Z8];simp
 | succ k ih =>
  by_cases h0:n=0
  ·subst h0;rw[Z8];simp
  ·rw[ZLd hB h0,List.length_cons];have:n / B<B^k:=Nat.div_lt_of_lt_mul (by rw[Nat.pow_succ,Nat.mul_comm]at h;exact h);have:=ih this;omega
theorem Zke {B:Nat} (hB:2≤B) (n:Nat):n<B^(Zc B n).length:=by
 have:=ZBc (Zdb hB n)
 rwa [ZVa hB]at this
theorem Zph {B:Nat} (hB:2≤B) {n:Nat} (h:n≠0):B^((Zc B n).length-1)≤n:=by
 induction n using Nat.strongRecOn with
 | ind n ih =>
  rw[ZLd hB h,List.length_cons];by_cases h2:n / B=0
  ·rw[h2,Z8];simp;omega
  ·have h3:=ih _ (Nat.div_lt_self (by omega) (by omega)) h2;have h4:0<(Zc B (n / B)).length:=List.length_pos_iff.2 λe=>h2 ((Z5g hB).1 e);have h5:(Zc B (n / B)).length+1-1=(Zc B (n / B)).length-1+1:=by omega
   rw[h5,Nat.pow_succ];have h6:B^((Zc B (n / B)).length-1)*B≤n / B*B:=mR _ h3;have h7:=Nat.div_mul_le_self n B;omega
def ZIa (n m:Nat):Int:=if n<m then -1 else if m<n then 1 else 0
def ZIc (n:Nat):Option Bool:=some (decide (n=1))
def Zia (a:List Int):Option Nat:=some (val 18446744073709551616 a)
def ZNd (n m:Nat):Option Int:=some (ZIa n m)
def clo (l:List Int):Option Nat:=if Zc 18446744073709551616 (val 18446744073709551616 l)=l then some (val 18446744073709551616 l) else none
def Zkh (l:List Int):Option Nat:=if Zc 4294967296 (val 4294967296 l)=l then some (val 4294967296 l) else none
theorem ZGr {l:List Int} {n:Nat} (h:clo l=some n):Zc 18446744073709551616 n=l:=by
 unfold clo at h;split at h
 ·cases h;assumption
 ·cases h
theorem ZUr {l:List Int} {n:Nat} (h:Zkh l=some n):Zc 4294967296 n=l:=by
 unfold Zkh at h;split at h
 ·cases h;assumption
 ·cases h
theorem clo_rel {v:Za} {c:List Go.Value} {l:List Int} {n:Nat} (h:(Zr (Zd .u64)).rel v c l) (e:clo l=some n):Zn.rel v c n:=by
 show (Zr (Zd .u64)).rel v c (Zc 18446744073709551616 n);rw[ZGr e];exact h
theorem ZGs {v:Za} {c:List Go.Value} {l:List Int} {n:Nat} (h:(Zr (Zd .u32)).rel v c l) (e:Zkh l=some n):ZAa.rel v c n:=by
 show (Zr (Zd .u32)).rel v c (Zc 4294967296 n);rw[ZUr e];exact h
theorem Z1l {l:List Int} (h:Dig 18446744073709551616 l) (c:Cut l):clo l=some (val 18446744073709551616 l):=by
 unfold clo;rw[Zdf (by decide) h c,iP rfl]
def okN (n:Nat):Prop:=(Zc 18446744073709551616 n).length≤68719476736
instance (n:Nat):Decidable (okN n):=inferInstanceAs (Decidable (_≤_))
def Zfg (n m:Nat):Option Nat:=if okN n∧okN m then some (n+m) else none
def Z6e (n m:Nat):Option Nat:=if okN n∧m≤n then some (n-m) else none
def ZOa (n m:Nat):Option Nat:=if okN n∧okN m then some (n*m) else none
def Zrc (n:Nat) (k:Int):Option Nat:=if okN n∧0≤k∧k≤1099511627776 then some (n*2^k.toNat) else none
def Zie (n:Nat) (k:Int):Option Nat:=if okN n∧0≤k then some (n / 2^k.toNat) else none
def ZCc (n:Nat) (d:Int):Option (Nat×Int):=if okN n∧0<d then some (n / d.toNat,((n%d.toNat:Nat):Int)) else none
def ZRa (n m:Nat):Option (Nat×Nat):=if okN n∧okN m∧m≠0 then some (n / m,n%m) else none
def Zoc (n m:Nat):Option Nat:=if okN n∧okN m then some (Nat.gcd n m) else none
def Z3e (n m:Nat):Option Int:=if n<18446744073709551616∧m<18446744073709551616∧m≠0 then some ((Nat.gcd n m:Nat):Int) else none
def Zac (x y:Int):Option (Int×Int):=if 0≤x∧0≤y∧x<18446744073709551616∧y<18446744073709551616 then some (x*y / 18446744073709551616,x*y%18446744073709551616) else none
def bl (n:Nat):Nat:=if n=0 then 0 else Nat.log2 n+1
def Z5f (x:Int):Option Int:=if 0≤x∧x<18446744073709551616 then some (bl x.toNat:Int) else none
def Zvc (x:Int):Option Int:=if 0≤x∧x<18446744073709551616 then some (64-(bl x.toNat:Int)) else none
def Zpc (hi lo y:Int):Option (Int×Int):=if 0≤hi∧0≤lo∧lo<18446744073709551616∧hi<y∧y<18446744073709551616 then some ((hi*18446744073709551616+lo) / y,(hi*18446744073709551616+lo)%y) else none
def ZUa:Nat→Nat→List Int
 | 0,_=>[]
 | k+1,n=>((n%18446744073709551616:Nat):Int) :: ZUa k (n / 18446744073709551616)
def Zna (n:Int):Option Nat:=some n.toNat
def Zif (u:List Int) (v:Nat) (q:Int):Option (Bool×List Int) :=
 if okN v∧u.length=(Zc 18446744073709551616 v).length+1 then
  if val 18446744073709551616 u<v*q.toNat then some (false,u) else some (true,ZUa u.length (val 18446744073709551616 u-v*q.toNat))
 else none
def ZWe (u:List Int) (v:Nat):Option (Int×List Int) :=
 if okN v∧u.length=(Zc 18446744073709551616 v).length+1∧2≤(Zc 18446744073709551616 v).length∧val 18446744073709551616 u<v*18446744073709551616 then
  some (((val 18446744073709551616 u / v:Nat):Int),ZUa u.length (val 18446744073709551616 u%v))
 else none
theorem ZOo:∀ k n,(ZUa k n).length=k
 | 0,_=>rfl
 | k+1,n=>by simp[ZUa,ZOo k]
theorem Z8o:∀ k n,Dig 18446744073709551616 (ZUa k n)
 | 0,_=>Dig.nil
 | k+1,n=>Dig.cons.2 ⟨by omega,Z8o k _⟩
theorem Zll:∀ {l:List Int},Dig 18446744073709551616 l→ZUa l.length (val 18446744073709551616 l)=l
 | [],_=>rfl
 | x :: l,h=>by
  obtain⟨h1,h2⟩:=Dig.cons.1 h
  have e1:val 18446744073709551616 (x :: l)%18446744073709551616=x.toNat:=by simp only[val];omega
  have e2:val 18446744073709551616 (x :: l) / 18446744073709551616=val 18446744073709551616 l:=by simp only[val];omega
  rw[List.length_cons,ZUa,e1,e2,Zll h2]
  congr 1;omega
theorem ZZm:∀ {k n:Nat},n<18446744073709551616^k→val 18446744073709551616 (ZUa k n)=n
 | 0,n,h=>by simp at h;subst h;rfl
 | k+1,n,h=>by
  have:n / 18446744073709551616<18446744073709551616^k:=Nat.div_lt_of_lt_mul (by rw[Nat.pow_succ,Nat.mul_comm]at h;exact h)
  simp only[ZUa,val]
  rw[ZZm this]
  omega
def Zsa (s:Bool) (n:Nat):Option Int:=if s=true∧n=0 then none else some (if s then -(n:Int) else n)
theorem ZWr {v:Za} {s:Bool} {x:Value} {i:Int} (h:ZMb.rel v [.bool s,x] i):s=decide (i<0)∧Zn.rel v [x] i.natAbs:=by
 obtain⟨c1,c2,e,h1,h2⟩:=h;have h1':c1=[.bool (decide (i<0))]:=h1;subst h1'
 cases e
 exact⟨rfl,h2⟩
theorem Zwr {v:Za} {s:Bool} {x:Value} {n:Nat} {i:Int} (h:Zn.rel v [x] n) (e:Zsa s n=some i):ZMb.rel v [.bool s,x] i:=by
 unfold Zsa at e;split at e
 ·cases e
 ·rename_i hn
  cases e
  refine⟨[.bool s],[x],rfl,?_,?_⟩
  ·show [Value.bool s]=[Value.bool (decide _)]
   cases s
   ·simp
   ·have:n≠0:=λh0=>hn ⟨rfl,h0⟩;simp;omega
  ·show Zn.rel v [x] (Int.natAbs _)
   cases s
   ·exact h
   ·simpa using h
theorem ZYp {v:Za} {a b c:Value} {q:Rat} (h:rRat.rel v [a,b,c] q):ZMb.rel v [a,b] q.num∧Zn.rel v [c] (ZX q.den):=by
 obtain⟨c1,c2,e,h1,h2⟩:=h;obtain⟨s,q',n,k,e1⟩:=Zah h1;obtain⟨q2,n2,k2,e2⟩:=Zoa h2;have h1':c1=[.bool s,.slice q' n k]:=e1;have h2':c2=[.slice q2 n2 k2]:=e2;subst h1' h2'
 cases e
 exact⟨h1,h2⟩
def ZH (d:Nat):Nat:=if d=0 then 1 else d
def ZPd (i:Int) (d:Nat):Option Rat:=if d≠1∧(mkRat i (ZH d)).num=i∧ZX (mkRat i (ZH d)).den=d then some (mkRat i (ZH d)) else none
theorem ZZq {v:Za} {a b c:Value} {i:Int} {d:Nat} {q:Rat} (h1:ZMb.rel v [a,b] i) (h2:Zn.rel v [c] d) (e:ZPd i d=some q):rRat.rel v [a,b,c] q:=by
 unfold ZPd at e;split at e
 ·rename_i hh;obtain⟨_,h3,h4⟩:=hh;have e:=Option.some.inj e;rw[e]at h3 h4;refine⟨[a,b],[c],rfl,?_,?_⟩
  ·show ZMb.rel v [a,b] q.num;rw[h3];exact h1
  ·show Zn.rel v [c] (ZX q.den);rw[h4];exact h2
 ·cases e
theorem ZMl (d:Nat) (h:d≠0):ZH (ZX d)=d:=by
 unfold ZH ZX;by_cases h1:d=1
 ·simp[h1]
 ·rw[iN h1,iN h]
theorem ZUi (q:Rat):ZPd q.num (ZX q.den)=some q:=by
 have e:=ZMl q.den q.den_nz;unfold ZPd;rw[e,Rat.mkRat_self,iP ⟨by unfold ZX;split <;> omega,rfl,rfl⟩]
def ZWa (s:Bool) (n:Nat):Option Int:=some (if s then -(n:Int) else n)
def ofF (n:Int):Option Int:=some n
def Zma (d:Nat):Option Nat:=some (ZH d)
def Z7f (x:Int):Option Int:=some x.sign
def Zba (x y:Int):Option Int:=if okN x.natAbs∧okN y.natAbs then some (x+y) else none
def Zca (x y:Int):Option Int:=if okN x.natAbs∧okN y.natAbs then some (x*y) else none
def ZFa (x:Int) (n:Nat):Option Int:=if okN x.natAbs∧okN n then some (x*n) else none
def ZYc (x:Int):Option Int:=some (-x)
def Zad (x:Rat):Option Bool:=some (decide (x=0))
def Zzb (n:Int):Option Rat:=some (n:Rat)
def Z7a (n:Int) (d:Nat):Option Rat:=if okN n.natAbs∧okN d∧d≠0 then some (mkRat n d) else none
def okQ (x:Rat):Prop:=bl x.num.natAbs≤1099511627776∧bl x.den≤1099511627776
instance (x:Rat):Decidable (okQ x):=inferInstanceAs (Decidable (_∧_))
def Zkd (x y:Rat):Option Rat:=if okQ x∧okQ y then some (x+y) else none
def ZLf (x y:Rat):Option Rat:=if okQ x∧okQ y then some (x-y) else none
def Zxe (x y:Rat):Option Rat:=if okQ x∧okQ y then some (x*y) else none
def ZPg (x y:Rat):Option (Rat×Int):=if okQ x∧okQ y then some (if y=0 then (0,3) else (x / y,0)) else none
def Z1f (x:Rat):Option Rat:=some (-x)
def ZCb (x:Rat):Option Int:=some x.num.sign
def Zrg (n d:Int):Option (Rat×Int):=some (if d=0 then (0,3) else (Rat.divInt n d,0))
def Zni (x y:Rat):Option Int:=if okQ x∧okQ y then some (x-y).num.sign else none
theorem rQ_open {v:Za} {s:Bool} {a b:Value} {q:Rat} (h:rQ.rel v [.bool s,a,b] q):s=decide (q.num<0)∧ZAa.rel v [a] q.num.natAbs∧ZAa.rel v [b] q.den:=by
 obtain⟨c1,c23,e,h1,c2,c3,rfl,h2,h3⟩:=h;obtain⟨q',n',k',rfl⟩:=Zzc h2;obtain⟨q2,n2,k2,rfl⟩:=Zzc h3;have h1':c1=[.bool (decide (q.num<0))]:=h1;subst h1'
 cases e
 exact⟨rfl,h2,h3⟩
def sgn (s:Bool) (n:Nat):Int:=if s then -(n:Int) else n
def ZXh (s:Bool) (n d:Nat):Option Rat:=if decide ((mkRat (sgn s n) d).num<0)=s∧(mkRat (sgn s n) d).num.natAbs=n∧(mkRat (sgn s n) d).den=d then some (mkRat (sgn s n) d) else none
theorem ZAm {v:Za} {s:Bool} {a b:Value} {n d:Nat} {q:Rat} (h1:ZAa.rel v [a] n) (h2:ZAa.rel v [b] d) (e:ZXh s n d=some q):rQ.rel v [.bool s,a,b] q:=by
 unfold ZXh at e;split at e
 ·rename_i hh;obtain⟨h3,h4,h5⟩:=hh;have e:=Option.some.inj e;rw[e]at h3 h4 h5;refine⟨[.bool s],[a,b],rfl,?_,[a],[b],rfl,?_,?_⟩
  ·show [Value.bool s]=[Value.bool (decide (q.num<0))];rw[h3]
  ·show ZAa.rel v [a] q.num.natAbs;rw[h4];exact h1
  ·show ZAa.rel v [b] q.den;rw[h5];exact h2
 ·cases e
section
variable {P:Program} {K:Nat} {w0:Base} {v0:Za} {σ:List (Nat×Value)} {ℓ:List Loc} {v:Za} {a:Act} {w:World}
variable {d:Option Nat} {ty:TypeId} {pos:String} {aft:Array Edge} {g:Option (Nat×Bool)}
end
end Go.Eng
namespace Go.Eng
open Go.RowKit Go.WideShapes Go.ChangeShapes
def Zsj (W:World):Za:=λb=>W.heap[b]?
theorem Zer (W:World):VIn (Zsj W) W:=λ_ _ h=>h
def ZBd (P:Program) (t:TypeId) {α:Type} (A:Rep α):Prop:=∀ (H:Type) (enc:TypeId×Value→H) (W:World) (fuel:Nat) (cs:List Value) (x:DataW H×List MemPlace),
 DataW.trod enc P W 0 (λ_=>true) true fuel t cs=some x→∃ a,A.rel (Zsj W) cs a
theorem Zvl {P:Program} {t:TypeId} {k:IntKind} (ht:P.underlying t=some (.int k)):ZBd P t (Zd k):=by
 intro H enc W fuel cs x h
 cases fuel with
 | zero=>simp[DataW.trod]at h
 | succ n =>
  unfold DataW.trod at h;rw[ht]at h;split at h <;> simp_all;rename_i k2 z heq;obtain⟨⟨rfl,hw⟩,_⟩:=h;refine⟨z,rfl,?_⟩;simp only[Lit.wf,Bool.and_eq_true,decide_eq_true_eq]at hw;exact hw
theorem Z8r {P:Program} {t e:TypeId} {α:Type} {A:Rep α} (ht:P.underlying t=some (.array 2 e)) (hA:ZBd P e A) (ce:P.cellsOf e=A.n) (ct:P.cellsOf t=A.n+A.n):ZBd P t (ZQb A A):=by
 intro H enc W fuel cs x h;obtain⟨xs,m,_,_,hl,hx,hf⟩:=DataW.trod_array ht h;have h0:=hf 0 (by omega);have h1:=hf 1 (by omega);rw[ce]at h0 h1;rw[List.getElem?_eq_getElem (by omega)]at h0 h1;rw[Nat.zero_mul,List.drop_zero]at h0;rw[Nat.one_mul]at h1;obtain⟨a,ha⟩:=hA _ _ _ _ _ _ h0;obtain⟨b,hb⟩:=hA _ _ _ _ _ _ h1;rw[List.take_of_length_le (by rw[List.length_drop,hl,ct];omega)]at hb;exact⟨(a,b),cs.take A.n,cs.drop A.n,(List.take_append_drop _ _).symm,ha,hb⟩
theorem ZDp {W:World} {b o n:Nat} {c:Array Value} {T:TypeId} {fr:Nat×Nat} {cs:List Value} (hg:W.heap[b]? = some (.cells c T fr)) (h:W.cells? 0 ⟨b,o,none⟩ n=some cs):cs=(c.toList.drop o).take n:=by
 obtain⟨_,hlen,hc⟩:=World.cells?_some h;apply List.ext_getElem?;intro j;by_cases hj:j<n
 ·have h1:=hc j (by omega);rw[ZYa]at h1;simp only[World.cell?,hg,Option.isSome_none,Bool.false_eq_true,if_false]at h1;rw[List.getElem?_take_of_lt hj,List.getElem?_drop]
  simpa using h1.symm
 ·rw[List.getElem?_eq_none (by omega),List.getElem?_take_eq_none (by omega)]
theorem ZDs {P:Program} {t e:TypeId} {α:Type} {A:Rep α} (ht:P.underlying t=some (.slice e)) (hA:ZBd P e A) (ce:P.cellsOf e=A.n) (hn:0<A.n):ZBd P t (Zr A):=by
 intro H enc W fuel cs x h;rcases Go.Deep.open_slice ht h with ⟨rfl,_⟩ | ⟨a,len,cap,m,n,D,Pl,rfl,_,hl,hm,hmm,_,hx⟩
 ·exact⟨[],Zdg A _⟩
 ·rw[ce]at hx;have hlm:len≤m:=by rw[hmm];simp;omega
  by_cases h0:len=0
  ·subst h0;exact⟨[],some a,cap,rfl,hl,hm,.inl rfl⟩
  ·obtain⟨cs0,hc0,_⟩:=hx 0 (by omega);obtain⟨_,hlen0,hcell0⟩:=World.cells?_some hc0;have h00:=hcell0 0 (by omega);rw[List.getElem?_eq_getElem (by omega)]at h00;have hspot:=World.cell?_spot h00;obtain⟨b,off,spot⟩:=a;have hs:spot=none:=by simpa [Addr.add] using hspot
   subst hs;obtain⟨c,T,fr,hg⟩:∃ c T fr,W.heap[b]? = some (.cells c T fr):=by
    rw[ZYa,ZYa]at h00;simp only[World.cell?]at h00;split at h00
    ·rename_i c T fr hg;exact⟨c,T,fr,hg⟩
    ·cases h00
   have key:∀ k,k≤len→∃ l:List α,l.length=k∧A.rels (Zsj W) ((c.toList.drop off).take (k*A.n)) l:=by
    intro k
    induction k with
    | zero=>intro _;exact⟨[],rfl,by rw[Nat.zero_mul,List.take_zero];exact ZXd⟩
    | succ k ih =>
     intro hk;obtain⟨l,hll,hr⟩:=ih (by omega);obtain⟨cs',hc',ht'⟩:=hx k (by omega);rw[ZYa]at hc';have e1:=ZDp hg hc';obtain⟨y,hy⟩:=hA _ _ _ _ _ _ ht';refine⟨l++[y],by simp[hll],?_⟩;have e2:(c.toList.drop off).take ((k+1)*A.n)=(c.toList.drop off).take (k*A.n)++cs':=by
      rw[e1,Nat.succ_mul,List.take_add,List.drop_drop]
     rw[e2];exact ZTb hr ⟨cs',[],by simp,hy,ZXd⟩
   obtain⟨l,hll,hr⟩:=key len (Nat.le_refl _);subst hll;exact⟨l,some ⟨b,off,none⟩,cap,rfl,hl,hm,.inr ⟨b,off,c,T,fr,rfl,hg,hr⟩⟩
theorem ZSr {P:Program} {W:World} {base:Nat} {t e:TypeId} {v:Value} {α:Type} {A:Rep α} (hA:A.agg=false) (ht:P.underlying t=some (.slice e)) (hv:Value.okWide P W .any base t v):v=A.val v.cells.toList:=by
 unfold Rep.val;rw[hA];unfold Value.okWide at hv;rw[ht]at hv;simp only[Cell.okWide,ht]at hv
 cases v <;> first | rfl | (simp[Cell.ok,ht]at hv)
theorem val_int {P:Program} {W:World} {base:Nat} {t:TypeId} {k:IntKind} {v:Value} {α:Type} {A:Rep α} (hA:A.agg=false) (ht:P.underlying t=some (.int k)) (hv:Value.okWide P W .any base t v):v=A.val v.cells.toList:=by
 unfold Rep.val;rw[hA];unfold Value.okWide at hv;rw[ht]at hv;simp only[Cell.okWide,ht]at hv
 cases v <;> first | rfl | (simp[Cell.ok,ht]at hv)
variable {H:Type} {enc:TypeId×Value→H} {P:Program}
theorem Zyp (hl:laidOutB P=true) {W W':World} (hb:Below W.heap.size W W') {sp:Nat→Bool}:∀ {ts:List TypeId} {vs:List Value} {ds:List (DataW H)} {ps:List MemPlace},(∀ t ∈ ts,P.readableRec t=true∧t<P.types.size) →
  DataW.TrodAll enc P W 0 (λ_=>true) true ts vs ds ps→(∀ x ∈ ps,x.block<W.heap.size∧sp x.block=true)→DataW.TrodAll enc P W' 0 sp true ts vs ds ps
 | [],[],[],ps,_,h,_=>h
 | t :: ts,v :: vs,d :: ds,ps,hr,h,hp=>by
  obtain⟨p,q,h1,h2,rfl⟩:=h
  exact⟨p,q,WideElems.Trod_stays hl (hr t (List.mem_cons_self ..)).1 (hr t (List.mem_cons_self ..)).2 h1 (λx hx=>hb.same (hp x (List.mem_append_left _ hx)).1) (λx hx=>(hp x (List.mem_append_left _ hx)).2),
   Zyp hl hb (λt' ht'=>hr t' (List.mem_cons_of_mem _ ht')) h2 (λx hx=>hp x (List.mem_append_right _ hx)),rfl⟩
theorem Zor {f:Func} {s:ChangeSpec} {apart fresh handsOn again:Bool} {W W':World} {args:Array Value} {ds gs:List (DataW H)} {before:List MemPlace} {tb:TypeId}
  (hl:laidOutB P=true) (hr:∀ t ∈ f.params.toList,P.readableRec t=true∧t<P.types.size) (htb:P.underlying tb=some .bool) (hres:f.resultTypes = #[tb]) (hsv:s.vars=[]) (hsg:(s.fn H (ds++gs)).vars=[])
  (hs1:(s.fn H (ds++gs)).results=[.lit (.bool true)]) (hs2:(s.fn H (ds++gs)).args=ds)
  (hW:DataW.Whole enc P f.params.toList s.vars apart W args.toList ds gs before) (hb:Below W.heap.size W W'):s.post enc P f apart fresh handsOn again W args (.bool true) W':=by
 have hW':=hW;obtain⟨p,q,hA,hV,rfl,hz,hn⟩:=hW;have hlt:∀ x ∈ p++q,x.block<W.heap.size:=λx hx=>hW'.lt x hx;rw[hsv]at hV;obtain⟨rfl,rfl⟩:=trodVars_none hV;have hold:∀ x ∈ p++[],(λb=>decide (b<W.heap.size)) x.block=true:=λx hx=>by simpa using hlt x hx
 have hargs:∀ sp:Nat→Bool,(∀ x ∈ p++[],sp x.block=true)→DataW.TrodAll enc P W' 0 sp true f.params.toList args.toList (s.fn H (ds++[])).args p:=λsp hsp=>by
  rw[hs2];exact Zyp hl hb hr hA (λx hx=>⟨hlt x (List.mem_append_left _ hx),hsp x (List.mem_append_left _ hx)⟩)
 have hvars:∀ sp:Nat→Bool,DataW.TrodVars enc P W' sp s.vars (s.fn H (ds++[])).vars []:=λsp=>by rw[hsv,hsg];rfl
 have hresult:∀ (b:Nat) (sp:Nat→Bool) (hd:Bool),DataW.TrodAll enc P W' b sp hd f.resultTypes.toList ((Value.bool true).resultList f.resultTypes.size) (s.fn H (ds++[])).results []:=λb sp hd=>by
  rw[hres,hs1];exact trodAll_mk1 (shut_bool htb _)
 have hok:∀ (j:Nat) (t:TypeId) (r:Value),f.resultTypes[j]? = some t→((Value.bool true).resultList f.resultTypes.size)[j]? = some r→Value.okWide P W' .any 0 t r:=ok_one hres rfl (okWide_bool_mk htb _);refine⟨ds,[],p++[],[],p,[],hW',hresult _ _ _,hargs _ hold,hvars _,World.keptBut_mono (λx hx=>⟨hx,?_⟩) (hb.frame (· ∈ p++[])),λ_=>?_⟩
 ·simpa using hx
 ·refine⟨hok,_,_,([]++p)++[],⟨[]++p,[],trodAll_append (hargs _ (λ_ _=>rfl)) (hresult _ _ _),hvars _,rfl,?_,?_⟩,?_⟩
  ·intro b off hp;have hin:MemPlace.cell b off ∈ p++[]:=by simpa using hp
   rw[hb.frozen (hlt _ hin)];exact hz b off hin
  ·intro ha;have:=hn ha
   simpa using this
  ·intro x hx _
   simpa using hx
abbrev Qd:=Rat×Rat×Rat×Rat
def qdz:Qd:=(0,0,0,0)
def qda (x y:Qd):Qd:=(x.1+y.1,x.2.1+y.2.1,x.2.2.1+y.2.2.1,x.2.2.2+y.2.2.2)
def qdn (x:Qd):Qd:=(-x.1,-x.2.1,-x.2.2.1,-x.2.2.2)
def qdm (x y:Qd):Qd:=(x.1*y.1+2*(x.2.1*y.2.1)+3*(x.2.2.1*y.2.2.1)+6*(x.2.2.2*y.2.2.2),x.1*y.2.1+x.2.1*y.1+3*(x.2.2.1*y.2.2.2+x.2.2.2*y.2.2.1),x.1*y.2.2.1+x.2.2.1*y.1+2*(x.2.1*y.2.2.2+x.2.2.2*y.2.1),x.1*y.2.2.2+x.2.2.2*y.1+x.2.1*y.2.2.1+x.2.2.1*y.2.1)
def qdr (q:Rat):Qd:=(q,0,0,0)
theorem Z9 {x y:Qd} (h0:x.1=y.1) (h1:x.2.1=y.2.1) (h2:x.2.2.1=y.2.2.1) (h3:x.2.2.2=y.2.2.2):x=y:=Prod.ext h0 (Prod.ext h1 (Prod.ext h2 h3))
theorem Z7m (x y:Qd):qda x y=qda y x:=Z9 (Rat.add_comm _ _) (Rat.add_comm _ _) (Rat.add_comm _ _) (Rat.add_comm _ _)
theorem Zpm (x y z:Qd):qda (qda x y) z=qda x (qda y z):=Z9 (Rat.add_assoc _ _ _) (Rat.add_assoc _ _ _) (Rat.add_assoc _ _ _) (Rat.add_assoc _ _ _)
theorem ZWl (x:Qd):qda x qdz=x:=Z9 (Rat.add_zero _) (Rat.add_zero _) (Rat.add_zero _) (Rat.add_zero _)
theorem qda_neg (x:Qd):qda x (qdn x)=qdz:=Z9 (Rat.add_neg_cancel _) (Rat.add_neg_cancel _) (Rat.add_neg_cancel _) (Rat.add_neg_cancel _)
theorem ZHp (x y:Qd):qdm x y=qdm y x:=by
 refine Z9 ?_ ?_ ?_ ?_ <;> (simp only[qdm];grind)
theorem qdm_one (x:Qd):qdm x (qdr 1)=x:=by
 refine Z9 ?_ ?_ ?_ ?_ <;> (simp only[qdm,qdr];grind)
abbrev Wd:=Qd×Qd
def wdz:Wd:=(qdz,qdz)
def wda (x y:Wd):Wd:=(qda x.1 y.1,qda x.2 y.2)
def wdm (x y:Wd):Wd:=(qda (qdm x.1 y.1) (qdn (qdm x.2 y.2)),qda (qdm x.1 y.2) (qdm x.2 y.1))
def wdc (x:Wd):Wd:=(x.1,qdn x.2)
def wds (f:Qd) (x:Wd):Wd:=(qdm f x.1,qdm f x.2)
def wdN (x:Wd):Qd:=qda (qdm x.1 x.1) (qdm x.2 x.2)
theorem ZNb {x y:Wd} (h:x.1=y.1) (h':x.2=y.2):x=y:=Prod.ext h h'
theorem ZQt (x y:Wd):wda x y=wda y x:=ZNb (Z7m _ _) (Z7m _ _)
theorem ZLj (x y z:Wd):wda (wda x y) z=wda x (wda y z):=ZNb (Zpm _ _ _) (Zpm _ _ _)
theorem Zqq (x:Wd):wda x wdz=x:=ZNb (ZWl _) (ZWl _)
theorem wdm_add (x y z:Wd):wdm x (wda y z)=wda (wdm x y) (wdm x z):=by
 refine ZNb (Z9 ?_ ?_ ?_ ?_) (Z9 ?_ ?_ ?_ ?_) <;> (simp only[wdm,wda,qdm,qda,qdn];grind)
theorem wdm_s (f:Qd) (x y:Wd):wdm x (wds f y)=wds f (wdm x y):=by
 refine ZNb (Z9 ?_ ?_ ?_ ?_) (Z9 ?_ ?_ ?_ ?_) <;> (simp only[wdm,wds,qdm,qda,qdn];grind)
theorem wdN_m (x y:Wd):wdN (wdm x y)=qdm (wdN x) (wdN y):=by
 obtain⟨⟨a0,a1,a2,a3⟩,b0,b1,b2,b3⟩:=x;obtain⟨⟨c0,c1,c2,c3⟩,d0,d1,d2,d3⟩:=y;refine Z9 ?_ ?_ ?_ ?_ <;> (simp only[wdN,wdm,qdm,qda,qdn];grind)
def ok32 (n:Nat):Prop:=(Zc 4294967296 n).length≤137438953472
instance (n:Nat):Decidable (ok32 n):=inferInstanceAs (Decidable (_≤_))
def ZK (n:Nat):List UInt8:=if h:n=0 then [] else ZK (n / 10)++[UInt8.ofNat (48+n%10)]
termination_by n
decreasing_by omega
def Zsb (n:Nat):List UInt8:=if n=0 then [48] else ZK n
def Zyf (n:Int):Option (List UInt8):=some (ZK n.toNat)
def txtQ (x:Rat):List UInt8:=(if x.num<0 then [45] else [])++Zsb x.num.natAbs++(if x.den=1 then [] else 47 :: Zsb x.den)
def smQ (x:Rat):Prop:=bl x.num.natAbs≤68719476736∧bl x.den≤68719476736
instance (x:Rat):Decidable (smQ x):=inferInstanceAs (Decidable (_∧_))
noncomputable def ZEn (a:(List Int)):Option (Bool) :=
 bnd (ifb (((a.length:Int))==(1:Int))
 (bnd (idx a (0:Int)) λb =>
 some (b==(1:Int)))
 (some false))
 (λ(c:Bool) =>
 (some c))
noncomputable def cut_m (a:(List Int)):Option ((List Int)) :=
 bnd (bnd (Zp (λs:(List Int)=>match s with
| b =>
 (bnd (ifb (decide ((0:Int)<(b.length:Int)))
 (bnd (chk .i64 (((b.length:Int))-(1:Int))) λc =>
 bnd (idx b c) λd =>
 some (d==(0:Int)))
 (some false))
 (λ(e:Bool) =>
 (ifb (e)
 (bnd (chk .i64 (((b.length:Int))-(1:Int))) λf =>
 bnd (ZWb b (0:Int) f) λg =>
 some (.inl g))
 (some (.inr b)))))) Zy a)
 (λ(h:(List Int)) =>
 (some h)))
 (λ(i:(List Int)) =>
 (some i))
noncomputable def cmp_m (a:(List Int)) (b:(List Int)):Option (Int) :=
 ifb (((a.length:Int)) != ((b.length:Int)))
 (ifb (decide ((a.length:Int)<(b.length:Int)))
 (some (-1:Int))
 (some (1:Int)))
 (bnd (chk .i64 (((a.length:Int))-(1:Int))) λd =>
 bnd (bnd (Zp (λs:Int=>match s with
| c =>
 (ifb (decide ((0:Int)≤c))
 (bnd (idx a c) λe =>
 bnd (idx b c) λf =>
 ifb (decide (e<f))
 (some (.inr ((.inl (-1:Int)))))
 (bnd (idx a c) λg =>
 bnd (idx b c) λh =>
 ifb (decide (h<g))
 (some (.inr ((.inl (1:Int)))))
 (bnd (chk .i64 (c-(1:Int))) λi =>
 some (.inl i))))
 (some (.inr ((.inr (()))))))) Zy d)
 (λ(p:(Int) ⊕ (Unit))=>match p with
| .inl j =>
 (some ((.inr j)))
| .inr (()) =>
 (some ((.inl (()))))))
 (λ(p:(Unit) ⊕ (Int))=>match p with
| .inl (()) =>
 (some (0:Int))
| .inr k =>
 (some k)))
noncomputable def Z3j (a:Nat) (b:Nat):Option (Int) :=
 bnd (ifb (decide ((0:Int)<(((Zc 18446744073709551616 a)).length:Int)))
 (bnd (idx ((Zc 18446744073709551616 a)) (0:Int)) λe =>
 some e)
 (some (0:Int)))
 (λ(f:Int) =>
 (bnd (idx ((Zc 18446744073709551616 b)) (0:Int)) λg =>
 bnd (bnd (Zp (λs:Int×Int=>match s with
| (d,c) =>
 (ifb (decide ((0:Int)<c))
 (bnd (rem .u64 d c) λh =>
 some (.inl ((c,h))))
 (some (.inr d)))) Zy ((f,g)))
 (λ(i:Int) =>
 (some i)))
 (λ(j:Int) =>
 (some j))))
theorem Zmr {n:Nat}:ZEn (Zc 18446744073709551616 n)=some (decide (n=1)):=by
 unfold ZEn;by_cases h:n=1
 ·subst h;rw[ZAj (by omega) (by decide)];rfl
 ·by_cases h0:n=0
  ·subst h0;rw[Z8];rfl
  ·rw[ZLd (by decide) h0];by_cases h2:n / 18446744073709551616=0
   ·rw[h2,Z8];have:n%18446744073709551616=n:=Nat.mod_eq_of_lt (by have:=Nat.mod_add_div n 18446744073709551616;rw[h2]at this;have:=Nat.mod_lt n (show 0<18446744073709551616 by decide);omega);simp[ifb,bnd,idx,this,h];omega
   ·have h3:Zc 18446744073709551616 (n / 18446744073709551616)≠[]:=λe=>h2 ((Z5g (by decide)).1 e);have h4:0<(Zc 18446744073709551616 (n / 18446744073709551616)).length:=List.length_pos_iff.2 h3;have h5:((((n%18446744073709551616:Nat):Int) :: Zc 18446744073709551616 (n / 18446744073709551616)).length:Int)==1↔False:=by
     simp only[List.length_cons,beq_iff_eq,iff_false];omega
    have h6:(((((n%18446744073709551616:Nat):Int) :: Zc 18446744073709551616 (n / 18446744073709551616)).length:Int)==1)=false:=by simpa using h5
    rw[h6];simp[ifb,bnd,h]
theorem cut_eq {a:List Int} (ha:Dig 18446744073709551616 a) (hl:a.length≤9223372036854775807):cut_m a=some (Zc 18446744073709551616 (val 18446744073709551616 a)):=by
 unfold cut_m;rw[Zyj (r:=Zc 18446744073709551616 (val 18446744073709551616 a)) (λs=>Dig 18446744073709551616 s∧s.length≤9223372036854775807∧val 18446744073709551616 s=val 18446744073709551616 a) List.length ⟨ha,hl,rfl⟩ (Z7 (by omega)) ?_]
 ·rfl
 ·rintro s ⟨h1,h2,h3⟩;by_cases h0:s=[]
  ·subst h0;right;rw[← h3];show some (Sum.inr [])=_;rw[show val 18446744073709551616 []=0 from rfl,Z8]
  ·have hp:0<s.length:=List.length_pos_iff.2 h0;have e1:decide ((0:Int)<(s.length:Int))=true:=dT (by omega);have e2:chk .i64 ((s.length:Int)-1)=some ((s.length-1:Nat):Int):=by
    rw[Zs (by omega) (by omega)];congr 1;omega
   have e3:idx s ((s.length-1:Nat):Int)=some (s[s.length-1]'(by omega)):=ZF (by omega);simp only[e1,Zk,e2,Zb,e3];by_cases hz:s[s.length-1]'(by omega)=0
   ·left;have e4:((s[s.length-1]'(by omega))==0)=true:=by simp[hz]
    simp only[e4,Zk];have e5:ZWb s 0 ((s.length-1:Nat):Int)=some (s.take (s.length-1)):=by
     unfold ZWb;rw[iP ⟨by omega,by omega,by omega⟩];simp
    rw[e5];refine⟨_,rfl,⟨h1.take _,by simp;omega,?_⟩,by simp;omega⟩;have:=Zyb (B:=18446744073709551616) (l:=s) (i:=s.length-1) (by omega);rw[hz]at this;have h4:s.length-1+1=s.length:=by omega
    rw[h4,List.take_length]at this;simp at this;omega
   ·right;have e4:((s[s.length-1]'(by omega))==0)=false:=by simp[hz]
    simp only[e4,Zj];have hc:Cut s:=by
     intro x hx;rw[List.getLast?_eq_getElem?,List.getElem?_eq_getElem (by omega)]at hx
     cases hx;exact hz
    rw[← h3,Zdf (by decide) h1 hc]
theorem ZHd {B n:Nat} (hB:2≤B):(Zc B n)≠[]↔n≠0:=not_congr (Z5g hB)
theorem Zko {B n m:Nat} (hB:2≤B) (h:(Zc B n).length<(Zc B m).length):n<m:=by
 have h1:=Zke hB n;have hm:m≠0:=by rintro rfl;rw[Z8]at h;simp at h
 have h2:=Zph hB hm;have h3:B^(Zc B n).length≤B^((Zc B m).length-1):=Nat.pow_le_pow_right (by omega) (by omega);omega
theorem Zto {B:Nat} {a b:List Int} (ha:Dig B a) (hb:Dig B b) {i:Nat} (hl:a.length=b.length) (hi:i<a.length) (he:a.drop (i+1)=b.drop (i+1)) (h:a[i]<b[i]'(by omega)):val B a<val B b:=by
 rw[Zxc B a (i+1) (by omega),Zxc B b (i+1) (by omega),he,Zyb hi,Zyb (by omega:i<b.length)];have h1:=ZBc (ha.take i);rw[List.length_take,Nat.min_eq_left (by omega)]at h1;have h2:=ha.get hi;have h3:=hb.get (i:=i) (by omega);have h4:B^i*(a[i].toNat+1)≤B^i*(b[i]'(by omega)).toNat:=Nat.mul_le_mul_left _ (by omega);rw[Nat.mul_add]at h4;omega
theorem cmp_eq {n m:Nat} (h1:(Zc 18446744073709551616 n).length≤9223372036854775807) (h2:(Zc 18446744073709551616 m).length≤9223372036854775807):cmp_m (Zc 18446744073709551616 n) (Zc 18446744073709551616 m)=some (ZIa n m):=by
 unfold cmp_m;by_cases hl:(Zc 18446744073709551616 n).length=(Zc 18446744073709551616 m).length
 ·have e0:(((Zc 18446744073709551616 n).length:Int) != ((Zc 18446744073709551616 m).length:Int))=false:=by simp[hl]
  rw[e0,Zj];rw[Zs (by omega) (by omega),Zb];have hd:=Zdb (B:=18446744073709551616) (by decide) n;have hd':=Zdb (B:=18446744073709551616) (by decide) m;have hvn:=ZVa (B:=18446744073709551616) (by decide) n;have hvm:=ZVa (B:=18446744073709551616) (by decide) m;generalize Zc 18446744073709551616 n=a at *;generalize Zc 18446744073709551616 m=b at *;rw[Zyj (r:=if n<m then .inl (-1) else if m<n then .inl 1 else .inr ()) (λs:Int=>-1≤s∧s<a.length∧a.drop (s+1).toNat=b.drop (s+1).toNat) (λs=>(s+1).toNat) ⟨by omega,by omega,?_⟩ (Z7 (by omega)) ?_]
  ·rw[Zb];unfold ZIa;by_cases hlt:n<m
   ·simp only[iP hlt];rfl
   ·by_cases hgt:m<n
    ·simp only[iN hlt,iP hgt];rfl
    ·simp only[iN hlt,iN hgt];rfl
  ·rw[List.drop_eq_nil_of_le (by omega),List.drop_eq_nil_of_le (by omega)]
  ·rintro s ⟨h3,h4,h5⟩;by_cases hs:0≤s
   ·obtain⟨i,rfl⟩:=oZ hs;have hi:i<a.length:=by omega
    have hi':i<b.length:=by omega
    have e1:decide ((0:Int)≤(i:Int))=true:=dT hs;simp only[e1,Zk,ZF hi,ZF hi',Zb];have ei:((i:Int)+1).toNat=i+1:=by omega
    rw[ei]at h5;by_cases hlt:a[i]<b[i]
    ·right;have:=Zto hd hd' hl hi h5 hlt;rw[dT hlt,Zk,iP (by omega)]
    ·by_cases hgt:b[i]<a[i]
     ·right;have:=Zto hd' hd hl.symm hi' h5.symm hgt;rw[dFq hlt,Zj,dT hgt,Zk,iN (by omega),iP (by omega)]
     ·left;rw[dFq hlt,Zj,dFq hgt,Zj,Zs (by omega) (by omega),Zb];refine⟨_,rfl,⟨by omega,by omega,?_⟩,by simp⟩;have e2:((i:Int)-1+1).toNat=i:=by omega
      rw[e2,List.drop_eq_getElem_cons hi,List.drop_eq_getElem_cons hi',h5];congr 1;omega
   ·right;have:s = -1:=by omega
    subst this;simp at h5;have:n=m:=by rw[← hvn,← hvm,h5]
    subst this;simp[ifb]
 ·have e0:(((Zc 18446744073709551616 n).length:Int) != ((Zc 18446744073709551616 m).length:Int))=true:=by simp;omega
  rw[e0,Zk];by_cases hlt:(Zc 18446744073709551616 n).length<(Zc 18446744073709551616 m).length
  ·have:=Zko (by decide) hlt;rw[dT (by omega),Zk];simp[ZIa,this]
  ·have:=Zko (B:=18446744073709551616) (n:=m) (m:=n) (by decide) (by omega);rw[dFq (by omega),Zj];have h5:¬ n<m:=by omega
   simp[ZIa,this,h5]
theorem ZRn {B n:Nat} (hB:2≤B) (h0:n≠0) (h:n<B):idx (Zc B n) 0=some (n:Int):=by rw[ZAj h0 h];rfl
theorem Z7q {n m:Nat} (hn:n<18446744073709551616) (hm:m<18446744073709551616) (h0:m≠0):Z3j n m=some ((Nat.gcd n m:Nat):Int):=by
 unfold Z3j;have e1:ifb (decide ((0:Int)<((Zc 18446744073709551616 n).length:Int))) (bnd (idx (Zc 18446744073709551616 n) 0) λy80=>some y80) (some 0)=some (n:Int):=by
  by_cases h:n=0
  ·subst h;rw[Z8];rfl
  ·rw[ZAj h hn];rfl
 rw[e1,Zb,ZRn (by decide) h0 hm,Zb];rw[Zyj (r:=((Nat.gcd n m:Nat):Int)) (λs:Int×Int=>0≤s.1∧0≤s.2∧s.2<18446744073709551616∧Nat.gcd s.1.toNat s.2.toNat=Nat.gcd n m) (λs=>s.2.toNat) ⟨by simp,by simp,by simp;omega,by simp⟩ (Z7 (by simp;omega)) ?_]
 ·rfl
 ·rintro⟨x,y⟩ ⟨h1,h2,h3,h4⟩;simp only at h1 h2 h3 h4 ⊢;by_cases hy:y=0
  ·right;subst hy;simp at h4;simp[ifb];omega
  ·left;rw[dT (by omega),Zk];have e2:rem .u64 x y=some (x.tmod y):=by unfold rem;rw[iN hy]
   rw[e2,Zb];obtain⟨X,rfl⟩:=oZ h1;obtain⟨Y,rfl⟩:=oZ h2;have e3:(X:Int).tmod (Y:Int)=((X%Y:Nat):Int):=by simp[Int.tmod_eq_emod_of_nonneg]
   rw[e3];have hY:0<Y:=by omega
   have:=Nat.mod_lt X hY;refine⟨_,rfl,⟨by omega,by omega,by simp;omega,?_⟩,by simp;omega⟩;simp only[tN]at h4 ⊢;rw[← h4]
   conv=>rhs;rw[Nat.gcd_comm,Nat.gcd_rec,Nat.gcd_comm]
noncomputable def Zqk (a:Nat) (b:Nat):Option (Nat) :=
 bnd (ifb (decide ((((Zc 18446744073709551616 a)).length:Int)<(((Zc 18446744073709551616 b)).length:Int)))
 (some ((b,a)))
 (some ((a,b))))
 (λ(p:Nat×Nat)=>match p with
| (d,h) =>
 (bnd (chk .i64 (((((Zc 18446744073709551616 d)).length:Int))+(1:Int))) λk =>
 bnd (mk 8 ((((Zc 18446744073709551616 d)).length:Int)) k) λv =>
 bnd (bnd (Zp (λs:(List Int)×Int×Int=>match s with
| (e,i,c) =>
 (ifb (decide (c<(((Zc 18446744073709551616 d)).length:Int)))
 (bnd (idx ((Zc 18446744073709551616 d)) c) λl =>
 bnd (ifb (decide (c<(((Zc 18446744073709551616 h)).length:Int)))
 (bnd (idx ((Zc 18446744073709551616 h)) c) λm =>
 some m)
 (some (0:Int)))
 (λ(n:Int) =>
 (bnd (Z4a l n i) λj =>
 bnd (idx e c) λw =>
 bnd (chk .i64 (c+(1:Int))) λo =>
 some (.inl (((e.set (c).toNat j.1),j.2,o))))))
 (some (.inr ((e,i)))))) Zy (((List.replicate ((((Zc 18446744073709551616 d)).length:Int)).toNat (0:Int)),(0:Int),(0:Int))))
 (λ(p:(List Int)×Int)=>match p with
| (q,r) =>
 (some ((q,r)))))
 (λ(p:(List Int)×Int)=>match p with
| (f,g) =>
 (bnd (ifb (decide ((0:Int)<g))
 (bnd (Zva 8 (f++[g])) λx =>
 some ((f++[g])))
 (some f))
 (λ(t:(List Int)) =>
 (bnd (clo t) λu =>
 some u))))))
noncomputable def Zak (a:Nat) (b:Nat):Option (Nat) :=
 bnd (mk 8 ((((Zc 18446744073709551616 a)).length:Int)) ((((Zc 18446744073709551616 a)).length:Int))) λn =>
 bnd (bnd (Zp (λs:(List Int)×Int×Int=>match s with
| (d,f,c) =>
 (ifb (decide (c<(((Zc 18446744073709551616 a)).length:Int)))
 (bnd (idx ((Zc 18446744073709551616 a)) c) λg =>
 bnd (ifb (decide (c<(((Zc 18446744073709551616 b)).length:Int)))
 (bnd (idx ((Zc 18446744073709551616 b)) c) λh =>
 some h)
 (some (0:Int)))
 (λ(i:Int) =>
 (bnd (Z3b g i f) λe =>
 bnd (idx d c) λo =>
 bnd (chk .i64 (c+(1:Int))) λj =>
 some (.inl (((d.set (c).toNat e.1),e.2,j))))))
 (some (.inr d)))) Zy (((List.replicate ((((Zc 18446744073709551616 a)).length:Int)).toNat (0:Int)),(0:Int),(0:Int))))
 (λ(k:(List Int)) =>
 (some k)))
 (λ(l:(List Int)) =>
 (bnd (Zia l) λm =>
 some m))
theorem ZTr {P V Va Vb lo hi x y c B:Nat} (h:V+P*c=Va+Vb) (e:lo+B*hi=x+y+c):V+P*lo+P*B*hi=Va+P*x+(Vb+P*y):=by
 grind
theorem Zwo {P V Va Vb lo hi x y c B:Nat} (h:V+Vb=Va+P*c) (e:lo+y+c=x+B*hi):V+P*lo+(Vb+P*y)=Va+P*x+P*B*hi:=by
 grind
theorem Zbo {l:List Int} {B k:Nat} (hd:Dig B l) (hB:0<B):∃ y:Int,bnd (ifb (decide ((k:Int)<(l.length:Int))) (bnd (idx l (k:Int)) λy=>some y) (some 0)) (λx=>some x)=some y∧0≤y∧y<B∧val B (l.take (k+1))=val B (l.take k)+B^k*y.toNat ∧
  ∀ {α:Type} (f:Int→Option α),bnd (ifb (decide ((k:Int)<(l.length:Int))) (bnd (idx l (k:Int)) λy=>some y) (some 0)) f=f y:=by
 by_cases h:k<l.length
 ·have e:decide ((k:Int)<(l.length:Int))=true:=dT (by omega);refine⟨l[k],?_,(hd.get h).1,(hd.get h).2,Zyb h,λf=>?_⟩
  ·rw[e,Zk,ZF h];rfl
  ·rw[e,Zk,ZF h];rfl
 ·have e:decide ((k:Int)<(l.length:Int))=false:=dFq (by omega);refine⟨0,?_,by omega,by omega,?_,λf=>?_⟩
  ·rw[e];rfl
  ·rw[List.take_of_length_le (by omega),List.take_of_length_le (by omega)];simp
  ·rw[e];rfl
theorem ZLs {l:List Int} {k:Nat} {x:Int} (h:k<l.length):(l.set k x).take (k+1)=l.take k++[x]:=by
 rw[List.take_set,List.take_succ_eq_append_getElem h,List.set_append_right _ _ (by simp;omega)];simp[List.length_take,Nat.min_eq_left (Nat.le_of_lt h)]
theorem Z8e {B:Nat} {l:List Int} {k:Nat} {x:Int} (h:k<l.length):val B ((l.set k x).take (k+1))=val B (l.take k)+B^k*x.toNat:=by
 rw[ZLs h,Ztc,List.length_take,Nat.min_eq_left (by omega)];simp[val]
theorem ZOf {x y c:Int} (hx:0≤x) (hy:0≤y) (hc:0≤c) (hc':c≤1):Z4a x y c=some ((x+y+c)%18446744073709551616,(x+y+c) / 18446744073709551616):=by
 unfold Z4a;rw[iP ⟨hx,hy,hc,hc'⟩]
theorem Zsp {x y c:Int} (hx:0≤x) (hy:0≤y) (hc:0≤c) (hc':c≤1):Z3b x y c=some ((x-y-c)%18446744073709551616,if x<y+c then 1 else 0):=by
 unfold Z3b;rw[iP ⟨hx,hy,hc,hc'⟩]
theorem Zmd {b:Nat} {l c:Int} (h0:0≤l) (h1:l≤c) (h2:(b:Int)*c≤281474976710656) (h3:c≤9223372036854775807):∃ u,mk b l c=some u:=by
 unfold mk;rw[iP ⟨h0,h1,h2,h3⟩];exact⟨_,rfl⟩
theorem plus_eq {n m:Nat} (hn:okN n) (hm:okN m):Zqk n m=some (n+m):=by
 unfold Zqk;obtain⟨x,y,e,hx,hy,hxy,hl⟩:∃ x y:Nat,ifb (decide ((((Zc 18446744073709551616 n)).length:Int)<(((Zc 18446744073709551616 m)).length:Int))) (some (m,n)) (some (n,m))=some (x,y)∧okN x∧okN y∧x+y=n+m ∧
   (Zc 18446744073709551616 y).length≤(Zc 18446744073709551616 x).length:=by
  by_cases h:(Zc 18446744073709551616 n).length<(Zc 18446744073709551616 m).length
  ·exact⟨m,n,by rw[dT (by omega)];rfl,hm,hn,by omega,by omega⟩
  ·exact⟨n,m,by rw[dFq (by omega)];rfl,hn,hm,rfl,by omega⟩
 rw[e,Zb,← hxy];simp only;have hdx:=Zdb (B:=18446744073709551616) (by decide) x;have hdy:=Zdb (B:=18446744073709551616) (by decide) y;have hvx:=ZVa (B:=18446744073709551616) (by decide) x;have hvy:=ZVa (B:=18446744073709551616) (by decide) y;have hcx:=Zgh (B:=18446744073709551616) (by decide) x;have hcy:=Zgh (B:=18446744073709551616) (by decide) y;unfold okN at hx hy;generalize Zc 18446744073709551616 x=a at *;generalize Zc 18446744073709551616 y=b at *;rw[Zs (by omega) (by omega),Zb];obtain⟨u,hu⟩:=Zmd (b:=8) (l:=(a.length:Int)) (c:=(a.length:Int)+1) (by omega) (by omega) (by omega) (by omega);rw[hu,Zb,ZPa];refine Z5a (λs:(List Int)×Int×Int=>∃ k:Nat,s.2.2=(k:Int)∧k≤a.length∧s.1.length=a.length∧Dig 18446744073709551616 s.1∧0≤s.2.1∧s.2.1≤1 ∧
  val 18446744073709551616 (s.1.take k)+18446744073709551616^k*s.2.1.toNat=val 18446744073709551616 (a.take k)+val 18446744073709551616 (b.take k)) (λs=>a.length-s.2.2.toNat)
  (λr:List Int×Int=>r.1.length=a.length∧Dig 18446744073709551616 r.1∧0≤r.2∧r.2≤1∧val 18446744073709551616 r.1+18446744073709551616^a.length*r.2.toNat=x+y)
  ⟨0,rfl,by omega,by simp,Dig.replicate _ (by omega),Int.le_refl _,(by show (0:Int)≤1;omega),by simp[val]⟩ (Z7 (by simp;omega)) ?_ ?_
 ·rintro⟨out,c,i⟩ ⟨k,rfl,hk,ho,hd,hc,hc',hv⟩;simp only at ho hd hc hc' hv ⊢;by_cases hlt:k<a.length
  ·left;rw[dT (by omega),Zk,ZF hlt,Zb];obtain⟨y,_,hy,hy',hvb,hf⟩:=Zbo (k:=k) hdy (by decide);rw[hf,ZOf (hdx.get hlt).1 hy hc hc',Zb,ZF (by omega),Zb,Zs (by omega) (by omega),Zb];have hx:=hdx.get hlt;refine⟨_,rfl,⟨k+1,by simp,by omega,by simp[ho],?_,by simp;omega,by simp;omega,?_⟩,by simp;omega⟩
   ·exact hd.set _ (by omega)
   ·simp only[tN];rw[Z8e (by omega),Zyb hlt,hvb,Nat.pow_succ];exact ZTr hv (by omega)
  ·right;rw[dFq (by omega),Zj];refine⟨_,rfl,ho,hd,hc,hc',?_⟩;have hk':k=a.length:=by omega
   subst hk';rw[← hvx,← hvy]
   simpa [List.take_of_length_le,ho,hl] using hv
 ·rintro⟨out,c⟩ ⟨ho,hd,hc,hc',hv⟩;simp only at ho hd hc hc' hv ⊢;rw[Zb];simp only;rw[← hv];by_cases h0:0<c
  ·have hc1:c=1:=by omega
   subst hc1;rw[dT (by omega),Zk];have hr:Zva 8 (out++[(1:Int)])=some ():=by unfold Zva;rw[iP (by simp;omega)]
   rw[hr,Zb,Zb,Z1l (Dig.append.2 ⟨hd,Dig.cons.2 ⟨by omega,Dig.nil⟩⟩) (by intro x hx;simp at hx;omega),Zb,Ztc,ho];simp[val]
  ·have hc1:c=0:=by omega
   subst hc1;rw[dFq (by omega),Zj,Zb];have hcut:Cut out:=by
    intro z hz h0;subst h0;have hne:out≠[]:=by rintro rfl;cases hz
    have hpos:0<out.length:=List.length_pos_iff.2 hne;have h1:val 18446744073709551616 out<18446744073709551616^(a.length-1):=by
     rw[List.getLast?_eq_getElem?,List.getElem?_eq_getElem (by omega)]at hz;have h2:=Zyb (B:=18446744073709551616) (l:=out) (i:=out.length-1) (by omega);rw[Option.some.inj hz]at h2;have h3:out.length-1+1=out.length:=by omega
     rw[h3,List.take_length]at h2;have h4:=ZBc (hd.take (out.length-1));rw[List.length_take,Nat.min_eq_left (by omega),ho]at h4;simp at h2;rw[h2,ho];exact h4
    have h5:x≠0:=by
     rintro rfl;rw[← Zdf (by decide) hdx hcx,hvx,Z8]at ho;simp at ho;exact hne ho
    have h6:=Zph (B:=18446744073709551616) (by decide) h5;rw[← hvx,Zdf (by decide) hdx hcx,hvx]at h6;simp at hv;omega
   rw[Z1l hd hcut,Zb];simp
theorem Zug {B n m:Nat} (hB:2≤B) (h:n≤m):(Zc B n).length≤(Zc B m).length:=by
 apply Zui hB;exact Nat.lt_of_le_of_lt h (Zke hB m)
theorem ZOt {n m:Nat} (hn:okN n) (hm:m≤n):Zak n m=some (n-m):=by
 unfold Zak;have hl:=Zug (B:=18446744073709551616) (by decide) hm;have hdx:=Zdb (B:=18446744073709551616) (by decide) n;have hdy:=Zdb (B:=18446744073709551616) (by decide) m;have hvx:=ZVa (B:=18446744073709551616) (by decide) n;have hvy:=ZVa (B:=18446744073709551616) (by decide) m;unfold okN at hn;generalize Zc 18446744073709551616 n=a at *;generalize Zc 18446744073709551616 m=b at *;obtain⟨u,hu⟩:=Zmd (b:=8) (l:=(a.length:Int)) (c:=(a.length:Int)) (by omega) (by omega) (by omega) (by omega);rw[hu,Zb,ZPa];refine Z5a (λs:(List Int)×Int×Int=>∃ k:Nat,s.2.2=(k:Int)∧k≤a.length∧s.1.length=a.length∧Dig 18446744073709551616 s.1∧0≤s.2.1∧s.2.1≤1 ∧
  val 18446744073709551616 (s.1.take k)+val 18446744073709551616 (b.take k)=val 18446744073709551616 (a.take k)+18446744073709551616^k*s.2.1.toNat) (λs=>a.length-s.2.2.toNat)
  (λr:List Int=>r.length=a.length∧Dig 18446744073709551616 r∧val 18446744073709551616 r=n-m)
  ⟨0,rfl,by omega,by simp,Dig.replicate _ (by omega),Int.le_refl _,(by show (0:Int)≤1;omega),by simp[val]⟩ (Z7 (by simp;omega)) ?_ ?_
 ·rintro⟨out,c,i⟩ ⟨k,rfl,hk,ho,hd,hc,hc',hv⟩;simp only at ho hd hc hc' hv ⊢;by_cases hlt:k<a.length
  ·left;rw[dT (by omega),Zk,ZF hlt,Zb];obtain⟨y,_,hy,hy',hvb,hf⟩:=Zbo (k:=k) hdy (by decide);have hx:=hdx.get hlt;rw[hf,Zsp (hdx.get hlt).1 hy hc hc',Zb,ZF (by omega),Zb,Zs (by omega) (by omega),Zb];refine⟨_,rfl,⟨k+1,by simp,by omega,by simp[ho],?_,by simp only;split <;> omega,by simp only;split <;> omega,?_⟩,by simp;omega⟩
   ·exact hd.set _ (by omega)
   ·simp only[tN];rw[Z8e (by omega),Zyb hlt,hvb,Nat.pow_succ];refine Zwo hv ?_;split <;> omega
  ·right;rw[dFq (by omega),Zj];refine⟨_,rfl,ho,hd,?_⟩;have hk':k=a.length:=by omega
   subst hk';simp[List.take_of_length_le,ho,hl,hvx,hvy]at hv;have hlt2:=ZBc hd;rw[ho]at hlt2;have:c.toNat=0:=by
    have h1:c=0∨c=1:=by omega
    rcases h1 with rfl | rfl
    ·rfl
    ·simp at hv;omega
   rw[this]at hv;omega
 ·rintro out ⟨ho,hd,hv⟩;rw[Zb];unfold Zia;rw[hv,Zb]
theorem ZEq {n m z:Nat} (h:Zfg n m=some z):Zqk n m=some z:=by
 unfold Zfg at h;split at h
 ·rename_i hh;rw[plus_eq hh.1 hh.2,h]
 ·cases h
theorem Zzp {n m z:Nat} (h:Z6e n m=some z):Zak n m=some z:=by
 unfold Z6e at h;split at h
 ·rename_i hh;rw[ZOt hh.1 hh.2,h]
 ·cases h
theorem Z1s {n m:Nat} {z:Int} (h:Z3e n m=some z):Z3j n m=some z:=by
 unfold Z3e at h;split at h
 ·rename_i hh;rw[Z7q hh.1 hh.2.1 hh.2.2,h]
 ·cases h
noncomputable def Z2j (x:Int) (y:Int):Option (Int×Int) :=
 bnd (ZQ .u64 x (32:Int)) λa =>
 bnd (ZQ .u64 y (32:Int)) λb =>
 bnd (ZQ .u64 (IntKind.u64.wrap ((Zxa .u64 x (4294967295:Int))*(Zxa .u64 y (4294967295:Int)))) (32:Int)) λc =>
 bnd (ZQ .u64 (IntKind.u64.wrap ((IntKind.u64.wrap (a*(Zxa .u64 y (4294967295:Int))))+c)) (32:Int)) λd =>
 bnd (ZQ .u64 (IntKind.u64.wrap ((Zxa .u64 (IntKind.u64.wrap ((IntKind.u64.wrap (a*(Zxa .u64 y (4294967295:Int))))+c)) (4294967295:Int))+(IntKind.u64.wrap ((Zxa .u64 x (4294967295:Int))*b)))) (32:Int)) λe =>
 some ((IntKind.u64.wrap ((IntKind.u64.wrap ((IntKind.u64.wrap (a*b))+d))+e),IntKind.u64.wrap (x*y)))
theorem wrap_u64 (z:Int):IntKind.u64.wrap z=z%18446744073709551616:=by
 simp[IntKind.wrap,IntKind.signed,IntKind.bits]
theorem Z0j {x:Int} {k:Nat} (hx:0≤x) (hk:k≤64):ZQ .u64 x (k:Int)=some (x / 2^k):=by
 unfold ZQ;rw[iN (by omega)];have:min ((k:Int).toNat) IntKind.u64.bits=k:=by simp[IntKind.bits];omega
 rw[this,Int.fdiv_eq_ediv_of_nonneg];exact Int.pow_nonneg (by omega)
theorem Zse (x:Nat) (h:x<18446744073709551616):Zxa .u64 (x:Int) 4294967295=((x%4294967296:Nat):Int):=by
 unfold Zxa;rw[wrap_u64];have h1:(BitVec.ofInt IntKind.u64.bits (x:Int) &&& BitVec.ofInt IntKind.u64.bits 4294967295).toNat=x%4294967296:=by
  rw[BitVec.toNat_and];have e1:(BitVec.ofInt IntKind.u64.bits (x:Int)).toNat=x:=by
   show (BitVec.ofInt 64 (x:Int)).toNat=x;rw[BitVec.toNat_ofInt];simp;omega
  have e2:(BitVec.ofInt IntKind.u64.bits 4294967295).toNat=2^32-1:=by decide
  rw[e1,e2,Nat.and_two_pow_sub_one_eq_mod]
 rw[h1];omega
theorem Zfs {x y:Int} (hx:0≤x) (hy:0≤y) (hx':x<18446744073709551616) (hy':y<18446744073709551616):Z2j x y=some (x*y / 18446744073709551616,x*y%18446744073709551616):=by
 obtain⟨X,rfl⟩:=oZ hx;obtain⟨Y,rfl⟩:=oZ hy;obtain⟨h1,h2,h3,h4⟩:=Go.Lib.mul64_hi X Y (by omega) (by omega);have p1:X / 4294967296*(Y%4294967296)≤18446744065119617025:=Go.Lib.half_mul_le (by omega) (by omega);have p2:X%4294967296*(Y / 4294967296)≤18446744065119617025:=Go.Lib.half_mul_le (by omega) (by omega);have p3:X / 4294967296*(Y / 4294967296)≤18446744065119617025:=Go.Lib.half_mul_le (by omega) (by omega);unfold Z2j;have s32:∀ n:Nat,ZQ .u64 (n:Int) ((32:Int))=some ((n / 4294967296:Nat):Int):=λn=>by
  have:=Z0j (x:=(n:Int)) (k:=32) (by omega) (by omega);exact this
 have wr:∀ n:Nat,n<18446744073709551616→IntKind.u64.wrap (n:Int)=(n:Int):=λn h=>by rw[wrap_u64];omega
 have w1:IntKind.u64.wrap ((Zxa .u64 (X:Int) ((4294967295:Int)))*(Zxa .u64 (Y:Int) ((4294967295:Int))))=((X%4294967296*(Y%4294967296):Nat):Int):=by
  rw[Zse X (by omega),Zse Y (by omega),← Int.natCast_mul,wr _ h1]
 have w2:IntKind.u64.wrap (((X / 4294967296:Nat):Int)*(Zxa .u64 (Y:Int) ((4294967295:Int))))=((X / 4294967296*(Y%4294967296):Nat):Int):=by
  rw[Zse Y (by omega),← Int.natCast_mul,wr _ (by omega)]
 have w3:IntKind.u64.wrap ((Zxa .u64 (X:Int) ((4294967295:Int)))*((Y / 4294967296:Nat):Int))=((X%4294967296*(Y / 4294967296):Nat):Int):=by
  rw[Zse X (by omega),← Int.natCast_mul,wr _ (by omega)]
 have w4:IntKind.u64.wrap (((X / 4294967296:Nat):Int)*((Y / 4294967296:Nat):Int))=((X / 4294967296*(Y / 4294967296):Nat):Int):=by
  rw[← Int.natCast_mul,wr _ (by omega)]
 rw[s32,Zb,s32,Zb,w1,s32,Zb,w2,w3,w4,← Int.natCast_add,wr _ h2,s32,Zb,Zse _ h2,← Int.natCast_add,wr _ h3,s32,Zb,← Int.natCast_add];have hlt:X*Y / 18446744073709551616<18446744073709551616:=by
  rw[Nat.div_lt_iff_lt_mul (by omega)];exact Nat.mul_lt_mul'' (by omega) (by omega)
 rw[wr _ (by omega),← Int.natCast_add,wr _ (by omega),h4,wrap_u64];simp
theorem Z5q {x y:Int} {z:Int×Int} (h:Zac x y=some z):Z2j x y=some z:=by
 unfold Zac at h;split at h
 ·rename_i hh;rw[Zfs hh.1 hh.2.1 hh.2.2.1 hh.2.2.2,h]
 ·cases h
noncomputable def ZNi (a:Nat) (b:Nat):Option (Nat) :=
 bnd (ZIc a) λo =>
 ifb (o)
 (some b)
 (bnd (ZIc b) λq =>
 ifb (q)
 (some a)
 (bnd (chk .i64 (((((Zc 18446744073709551616 a)).length:Int))+((((Zc 18446744073709551616 b)).length:Int)))) λf =>
 bnd (mk 8 f f) λE =>
 bnd (bnd (Zp (λs:(List Int)×Int=>match s with
| (g,c) =>
 (ifb (decide (c<(((Zc 18446744073709551616 a)).length:Int)))
 (bnd (idx ((Zc 18446744073709551616 a)) c) λr =>
 bnd (bnd (Zp (λs:(List Int)×Int×Int=>match s with
| (e,h,d) =>
 (ifb (decide (d<(((Zc 18446744073709551616 b)).length:Int)))
 (bnd (idx ((Zc 18446744073709551616 b)) d) λt =>
 bnd (Zac r t) λi =>
 bnd (chk .i64 (c+d)) λu =>
 bnd (idx e u) λv =>
 bnd (Z4a i.2 v (0:Int)) λj =>
 bnd (Z4a j.1 h (0:Int)) λk =>
 bnd (chk .i64 (c+d)) λl =>
 bnd (idx e l) λF =>
 bnd (chk .i64 (d+(1:Int))) λw =>
 some (.inl (((e.set (l).toNat k.1),IntKind.u64.wrap ((IntKind.u64.wrap (i.1+j.2))+k.2),w))))
 (some (.inr ((e,h)))))) Zy ((g,(0:Int),(0:Int))))
 (λ(p:(List Int)×Int)=>match p with
| (x,y) =>
 (some ((x,y)))))
 (λ(p:(List Int)×Int)=>match p with
| (m,z) =>
 (bnd (chk .i64 (c+((((Zc 18446744073709551616 b)).length:Int)))) λn =>
 bnd (idx m n) λG =>
 bnd (chk .i64 (c+(1:Int))) λA =>
 some (.inl (((m.set (n).toNat z),A))))))
 (some (.inr g)))) Zy (((List.replicate (f).toNat (0:Int)),(0:Int))))
 (λ(B:(List Int)) =>
 (some B)))
 (λ(C:(List Int)) =>
 (bnd (Zia C) λD =>
 some D))))
noncomputable def ZNk (x:Int):Option (Int) :=
 bnd (ifb (decide ((4294967296:Int)≤x))
 (bnd (ZQ .u64 x (32:Int)) λe =>
 some ((e,(32:Int))))
 (some ((x,(0:Int)))))
 (λ(p:Int×Int)=>match p with
| (a,c) =>
 (bnd (ifb (decide ((65536:Int)≤a))
 (bnd (ZQ .u64 a (16:Int)) λf =>
 bnd (chk .i64 (c+(16:Int))) λg =>
 some ((f,g)))
 (some ((a,c))))
 (λ(p:Int×Int)=>match p with
| (b,d) =>
 (bnd (ifb (decide ((256:Int)≤b))
 (bnd (ZQ .u64 b (8:Int)) λh =>
 bnd (chk .i64 (d+(8:Int))) λi =>
 some ((h,i)))
 (some ((b,d))))
 (λ(p:Int×Int)=>match p with
| (j,k) =>
 (bnd (idx (([0,1,2,2,3,3,3,3,4,4,4,4,4,4,4,4,5,5,5,5,5,5,5,5,5,5,5,5,5,5,5,5,6,6,6,6,6,6,6,6,6,6,6,6,6,6,6,6,6,6,6,6,6,6,6,6,6,6,6,6,6,6,6,6,7,7,7,7,7,7,7,7,7,7,7,7,7,7,7,7,7,7,7,7,7,7,7,7,7,7,7,7,7,7,7,7,7,7,7,7,7,7,7,7,7,7,7,7,7,7,7,7,7,7,7,7,7,7,7,7,7,7,7,7,7,7,7,7,8,8,8,8,8,8,8,8,8,8,8,8,8,8,8,8,8,8,8,8,8,8,8,8,8,8,8,8,8,8,8,8,8,8,8,8,8,8,8,8,8,8,8,8,8,8,8,8,8,8,8,8,8,8,8,8,8,8,8,8,8,8,8,8,8,8,8,8,8,8,8,8,8,8,8,8,8,8,8,8,8,8,8,8,8,8,8,8,8,8,8,8,8,8,8,8,8,8,8,8,8,8,8,8,8,8,8,8,8,8,8,8,8,8,8,8,8,8,8,8,8,8,8,8,8,8,8,8]:List UInt8)) (IntKind.u8.wrap j)) λl =>
 bnd (chk .i64 (k+(IntKind.i64.wrap ((l.toNat:Int))))) λm =>
 some m))))))
end Go.Eng
