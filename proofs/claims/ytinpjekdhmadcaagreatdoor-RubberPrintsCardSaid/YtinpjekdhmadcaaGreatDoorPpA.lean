/- Lemmas towards the statement: the engine of the walks, the functions' models, laws and walks, part 1. Conditions: as each states. -/
import Derived.Deep.Slices
import Derived.Laws.BytesArg
import Derived.Laws.Concat
import Derived.Laws.Externs
import Derived.Laws.Strings3
import Derived.Laws.StructEq
import Derived.OpenShut
import Derived.ProofKit
import Derived.SizedLaws
import Derived.StillTail
import Derived.WalkKit
set_option linter.all false
set_option maxRecDepth 100000
namespace Go.Eng
theorem dFq {p : Prop} [Decidable p] (h : ¬p) : decide p = false := decide_eq_false h
theorem dT {p : Prop} [Decidable p] (h : p) : decide p = true := decide_eq_true h
theorem iP {c : Prop} {h : Decidable c} (k : c) {α : Sort _} {t e : α} : ite c t e = t := if_pos k
theorem iN {c : Prop} {h : Decidable c} (k : ¬c) {α : Sort _} {t e : α} : ite c t e = e := if_neg k
theorem oZ {a : Int} (h : 0 ≤ a) : ∃ n : Nat, a = n := Int.eq_ofNat_of_zero_le h
theorem mG {α : Type _} {l : List α} {i : Nat} {a : α} (e : l[i]? = some a) : a ∈ l := List.mem_of_getElem? e
theorem mR {m n : Nat} (k : Nat) (h : m ≤ n) : m * k ≤ n * k := Nat.mul_le_mul_right k h
theorem lB {n m : Nat} (h : Nat.ble n m = true) : n ≤ m := Nat.le_of_ble_eq_true h
theorem aAq {α : Type _} (a b c : List α) : a ++ b ++ c = a ++ (b ++ c) := List.append_assoc a b c
theorem lA {α : Type _} {a b : List α} : (a ++ b).length = a.length + b.length := List.length_append
theorem tN (n : Nat) : (n : Int).toNat = n := Int.toNat_natCast n
theorem eQ {n m : Nat} (h : Nat.beq n m = true) : n = m := Nat.eq_of_beq_eq_true h
end Go.Eng
namespace Go.Eng
open Go.RowKit
def Zb:=Nat→Option Obj
def Zb.le (v v':Zb):Prop:=∀ b o,v b=some o→v' b=some o
theorem Zb.le_refl (v:Zb):v.le v:=λ_ _ h=>h
theorem Zb.le_trans {a b c:Zb} (h:a.le b) (k:b.le c):a.le c:=λx o e=>k x o (h x o e)
def VIn (v:Zb) (w:World):Prop:=∀ b o,v b=some o→w.heap[b]? = some o
theorem VIn.lt {v:Zb} {w:World} (h:VIn v w) {b:Nat} {o:Obj} (e:v b=some o):b<w.heap.size:=by
 have:=h b o e;rcases Nat.lt_or_ge b w.heap.size with h' | h'
 ·exact h'
 ·simp[Array.getElem?_eq_none h']at this
theorem VIn.none {v:Zb} {w:World} (h:VIn v w) {b:Nat} (e:w.heap.size≤b):v b=none:=by
 cases hv:v b with
 | none=>rfl
 | some o=>have:=h.lt hv;omega
def Ext (w w':World):Prop:=Below w.heap.size w w'
theorem Ext.refl (w:World):Ext w w:=Below.refl _ _
theorem Ext.trans {a b c:World} (h:Ext a b) (k:Ext b c):Ext a c:=Below.trans h (Below.mono k h.size)
theorem Ext.size {a b:World} (h:Ext a b):a.heap.size≤b.heap.size:=Below.size h
theorem Ext.get {a b:World} (h:Ext a b) {k:Nat} {o:Obj} (e:a.heap[k]? = some o):b.heap[k]? = some o:=by
 have hk:k<a.heap.size:=by
  rcases Nat.lt_or_ge k a.heap.size with h' | h'
  ·exact h'
  ·simp[Array.getElem?_eq_none h']at e
 rw[Below.block h k hk];exact e
theorem Ext.alloc (w:World) (o:Obj):Ext w (w.alloc o):=Below.alloc (Below.refl _ _) (Nat.le_refl _) o
theorem Ext.drew (w:World):Ext w w.drew:=Below.drew (Below.refl _ _)
structure VStep (w:World) (v:Zb) (w':World) (v':Zb):Prop where
 le:v.le v'
 vin:VIn v' w'
 old:∀ b,b<w.heap.size→v' b=v b
theorem VStep.refl {w:World} {v:Zb} (h:VIn v w):VStep w v w v:=⟨Zb.le_refl _,h,λ_ _=>rfl⟩
theorem VStep.trans {a b c:World} {x y z:Zb} (hs:a.heap.size≤b.heap.size) (h:VStep a x b y) (k:VStep b y c z):VStep a x c z :=
 ⟨Zb.le_trans h.le k.le,k.vin,λn hn=>(k.old n (by omega)).trans (h.old n hn)⟩
theorem VStep.ext {w w':World} {v:Zb} (h:VIn v w) (k:Ext w w'):VStep w v w' v:=⟨Zb.le_refl _,λb o e=>k.get (h b o e),λ_ _=>rfl⟩
structure Base where
 wd:World
 lent:List Nat
instance:Coe World Base:=⟨λw=>⟨w,[]⟩⟩
structure ExtB (z:Base) (w:World):Prop where
 os:w.os=z.wd.os
 tape:w.tape=z.wd.tape
 output:w.output=z.wd.output
 size:z.wd.heap.size≤w.heap.size
 block:∀ k,k<z.wd.heap.size→k ∉ z.lent→w.heap[k]? = z.wd.heap[k]?
theorem ExtB.refl (z:Base):ExtB z z.wd:=⟨rfl,rfl,rfl,Nat.le_refl _,λ_ _ _=>rfl⟩
theorem ExtB.trans {z:Base} {b c:World} (h:ExtB z b) (k:Ext b c):ExtB z c :=
 ⟨k.os.trans h.os,k.tape.trans h.tape,k.output.trans h.output,Nat.le_trans h.size k.size,λi hi hn=>(k.block i (Nat.lt_of_lt_of_le hi h.size)).trans (h.block i hi hn)⟩
theorem ExtB.ext {w0 w:World} (h:ExtB (w0:Base) w):Ext w0 w:=⟨h.os,h.tape,h.output,h.size,λk hk=>h.block k hk (by simp)⟩
structure VStepB (z:Base) (v:Zb) (w':World) (v':Zb):Prop where
 le:v.le v'
 vin:VIn v' w'
 old:∀ b,b<z.wd.heap.size→b ∉ z.lent→v' b=v b
theorem VStepB.trans {z:Base} {b c:World} {x y q:Zb} (hs:z.wd.heap.size≤b.heap.size) (h:VStepB z x b y) (k:VStep b y c q):VStepB z x c q :=
 ⟨Zb.le_trans h.le k.le,k.vin,λn hn hm=>(k.old n (by omega)).trans (h.old n hn hm)⟩
theorem VStepB.ext {w0 w:World} {v0 v:Zb} (h:VStepB (w0:Base) v0 w v):VStep w0 v0 w v:=⟨h.le,h.vin,λk hk=>h.old k hk (by simp)⟩
def Ret (P:Program) (f:FuncId) (args:Array Value) (w:World) (v:Zb) (R:Value→Zb→Prop):Prop :=
 Calls P f args w λe w'=>∃ r v',e = .returned r∧Ext w w'∧VStep w v w' v'∧R r v'
theorem Ret.mono {P:Program} {f:FuncId} {args:Array Value} {w:World} {v:Zb} {R R':Value→Zb→Prop} (h:Ret P f args w v R) (k:∀ r v',v.le v'→R r v'→R' r v'):Ret P f args w v R' :=
 Calls.mono h λ_ _ ⟨r,v',e,x,s,q⟩=>⟨r,v',e,x,s,k r v' s.le q⟩
def plain:Value→Bool
 | .agg _ | .tuple _=>false
 | _=>true
def look:List (Nat×Value)→Nat→Option Value
 | [],_=>none
 | (k,x) :: r,t=>bif Nat.beq k t then some x else look r t
theorem Z4e {k:Nat} {x:Value} {r:List (Nat×Value)} {t:Nat} (h:k=t):look ((k,x) :: r) t=some x:=by
 subst h;simp[look]
theorem ZIg {k:Nat} {x:Value} {r:List (Nat×Value)} {t:Nat} (h:k≠t):look ((k,x) :: r) t=look r t:=by
 have hb:Nat.beq k t=false:=by
  cases hb:Nat.beq k t with
  | false=>rfl
  | true=>exact absurd (eQ hb) h
 simp[look,hb]
def ev (σ:List (Nat×Value)):Operand→Option Value
 | .tmp t=>look σ t
 | .const c=>some c
 | .global g=>some (.pointer (some ⟨g,0,none⟩))
 | .func f=>some (.func (.func f) #[] #[])
inductive Loc where
 | box (b:Nat) (T:TypeId) (cs:List Value)
 | own (b:Option Nat) (T:TypeId) (sz n cap:Nat) (cs:List Value)
 | mp (b:Nat) (l:List (Value×Value))
 | it (b:Nat) (s:List UInt8) (p:Nat)
def Loc.blk:Loc→Option Nat
 | .box b _ _=>some b
 | .own b _ _ _ _ _=>b
 | .mp b _=>some b
 | .it b _ _=>some b
def Loc.holds (w:World):Loc→Prop
 | .box b T cs=>w.heap[b]? = some (.cells cs.toArray T (0,0))
 | .own none _ _ n cap cs=>n=0∧cap=0∧cs=[]
 | .own (some b) T sz n cap cs=>cs.length=n*sz∧∃ cur:Array Value,w.heap[b]? = some (.cells cur T (0,0))∧n≤cap∧cap≤maxLen∧cur.size=cap*sz∧cur.toList.take (n*sz)=cs
 | .mp b l=>∃ es c,w.heap[b]? = some (.map es c)∧es.toList.map (λe=>(e.key,e.val))=l
 | .it b s p=>w.heap[b]? = some (.stringIter ⟨s.toArray⟩ p)
theorem Loc.holds_ext {w w':World} (h:Ext w w') {e:Loc} (k:e.holds w):e.holds w':=by
 cases e with
 | box b T cs=>exact h.get k
 | own b T sz n cap cs =>
  cases b with
  | none=>exact k
  | some b=>obtain⟨h1,c,h2,h3⟩:=k;exact⟨h1,c,h.get h2,h3⟩
 | mp b l=>obtain⟨es,c,h1,h2⟩:=k;exact⟨es,c,h.get h1,h2⟩
 | it b s p=>exact h.get k
theorem Loc.blk_get {w:World} {e:Loc} (k:e.holds w) {b:Nat} (hb:e.blk=some b):∃ o,w.heap[b]? = some o:=by
 cases e with
 | box b' T cs=>cases hb;exact⟨_,k⟩
 | own b' T sz n cap cs=>cases hb;obtain⟨_,c,h2,_⟩:=k;exact⟨_,h2⟩
 | mp b' l=>cases hb;obtain⟨es,c,h1,_⟩:=k;exact⟨_,h1⟩
 | it b' s p=>cases hb;exact⟨_,k⟩
theorem Z5b {w:World} {b:Nat} {o:Obj} (h:w.heap[b]? = some o):b<w.heap.size:=by
 rcases Nat.lt_or_ge b w.heap.size with h' | h'
 ·exact h'
 ·simp[Array.getElem?_eq_none h']at h
structure St (K:Nat) (w0:Base) (v0:Zb) (σ:List (Nat×Value)) (ℓ:List Loc) (v:Zb) (a:Act) (w:World):Prop where
 size:a.tmps.size=K
 dfr:a.defers=[]
 fr:∀ t x,look σ t=some x→a.tmps.getD t undef=x
 ext:ExtB w0 w
 vst:VStepB w0 v0 w v
 loc:∀ e ∈ ℓ,e.holds w∧∀ b,e.blk=some b→(w0.wd.heap.size≤b∨b ∈ w0.lent)∧v b=none
 nd:(ℓ.filterMap Loc.blk).Nodup
section
variable {K:Nat} {w0:Base} {v0:Zb} {σ:List (Nat×Value)} {ℓ:List Loc} {v:Zb} {a:Act} {w:World}
theorem St.eval (h:St K w0 v0 σ ℓ v a w) {x:Operand} {y:Value} (e:ev σ x=some y):a.eval x=y:=by
 cases x with
 | tmp t=>exact h.fr t y e
 | const c=>exact Option.some.inj e
 | global g=>exact Option.some.inj e
 | func f=>exact Option.some.inj e
theorem St.put (h:St K w0 v0 σ ℓ v a w) {d:Nat} (x:Value) (hd:d<K):St K w0 v0 ((d,x) :: σ) ℓ v (a.put (some d) x) w:=by
 refine⟨by simp[Act.put,h.size],by simp[Act.put,h.dfr],λt y e=>?_,h.ext,h.vst,h.loc,h.nd⟩;by_cases ht:d=t
 ·subst ht;rw[Z4e rfl]at e
  cases e
  simp[Act.put,h.size,hd]
 ·rw[ZIg ht]at e;have:=h.fr t y e
  simpa [Act.put,Array.getElem?_setIfInBounds_ne ht] using this
theorem St.frame {σ':List (Nat×Value)} (h:St K w0 v0 σ ℓ v a w) (k:∀ t x,look σ' t=some x→look σ t=some x):St K w0 v0 σ' ℓ v a w :=
 ⟨h.size,h.dfr,λt x e=>h.fr t x (k t x e),h.ext,h.vst,h.loc,h.nd⟩
theorem Zev {σ:List (Nat×Value)}:∀ t x,look [] t=some x→look σ t=some x:=λ_ _ h=>by cases h
theorem St.learn {t:Nat} {x:Value} (h:St K w0 v0 σ ℓ v a w) (e:a.tmps.getD t undef=x):St K w0 v0 ((t,x) :: σ) ℓ v a w :=
 ⟨h.size,h.dfr,λu y k=>by
  by_cases ht:t=u
  ·subst ht;rw[Z4e rfl]at k;cases k;exact e
  ·rw[ZIg ht]at k;exact h.fr u y k,h.ext,h.vst,h.loc,h.nd⟩
theorem St.vin (h:St K w0 v0 σ ℓ v a w):VIn v w:=h.vst.vin
theorem St.step {w':World} {v':Zb} (h:St K w0 v0 σ ℓ v a w) (x:Ext w w') (s:VStep w v w' v'):St K w0 v0 σ ℓ v' a w' :=
 ⟨h.size,h.dfr,h.fr,h.ext.trans x,VStepB.trans h.ext.size h.vst s,λe he=>by
  obtain⟨h1,h2⟩:=h.loc e he
  refine⟨Loc.holds_ext x h1,λb hb=>?_⟩
  obtain⟨h3,h4⟩:=h2 b hb
  obtain⟨_,hg⟩:=Loc.blk_get h1 hb
  exact⟨h3,by rw[s.old b (Z5b hg)];exact h4⟩,h.nd⟩
theorem St.newLoc (h:St K w0 v0 σ ℓ v a w) (o:Obj) {e:Loc} (hb:e.blk=some w.heap.size) (hh:e.holds (w.alloc o)):St K w0 v0 σ (e :: ℓ) v a (w.alloc o):=by
 have h':=h.step (Ext.alloc w o) (VStep.ext h.vin (Ext.alloc w o));refine⟨h'.size,h'.dfr,h'.fr,h'.ext,h'.vst,λx hx=>?_,?_⟩
 ·rcases List.mem_cons.1 hx with rfl | hx
  ·refine⟨hh,λb e'=>?_⟩;rw[hb]at e';cases e';exact⟨.inl h.ext.size,h.vin.none (Nat.le_refl _)⟩
  ·exact h'.loc x hx
 ·rw[List.filterMap_cons_some hb];refine List.nodup_cons.2 ⟨λhm=>?_,h.nd⟩;obtain⟨x,hx,hxb⟩:=List.mem_filterMap.1 hm;obtain⟨_,hg⟩:=Loc.blk_get (h.loc x hx).1 hxb;have:=Z5b hg;omega
theorem St.drop {ℓ':List Loc} (h:St K w0 v0 σ ℓ v a w) (k:ℓ'.Sublist ℓ):St K w0 v0 σ ℓ' v a w :=
 ⟨h.size,h.dfr,h.fr,h.ext,h.vst,λe he=>h.loc e (k.subset he),(k.filterMap _).nodup h.nd⟩
theorem St.nilLoc (h:St K w0 v0 σ ℓ v a w) (T:TypeId) (sz:Nat):St K w0 v0 σ (.own none T sz 0 0 [] :: ℓ) v a w :=
 ⟨h.size,h.dfr,h.fr,h.ext,h.vst,λe he=>by
  rcases List.mem_cons.1 he with rfl | he
  ·exact⟨⟨rfl,rfl,rfl⟩,λb hb=>by cases hb⟩
  ·exact h.loc e he,by rw[List.filterMap_cons_none rfl];exact h.nd⟩
def WAt (w:World) (b off:Nat) (cs:List Value):Prop:=∃ c T fr,w.heap[b]? = some (.cells c T fr)∧(c.toList.drop off).take cs.length=cs
def At (v:Zb) (b off:Nat) (cs:List Value):Prop:=∃ c T fr,v b=some (.cells c T fr)∧(c.toList.drop off).take cs.length=cs
theorem At.mono {v v':Zb} {b off:Nat} {cs:List Value} (h:v.le v') (k:At v b off cs):At v' b off cs:=by
 obtain⟨c,T,fr,h1,h2⟩:=k;exact⟨c,T,fr,h _ _ h1,h2⟩
theorem St.view (h:St K w0 v0 σ ℓ v a w) {b off:Nat} {cs:List Value} (k:At v b off cs):WAt w b off cs:=by
 obtain⟨c,T,fr,h1,h2⟩:=k;exact⟨c,T,fr,h.vin _ _ h1,h2⟩
theorem St.box (h:St K w0 v0 σ ℓ v a w) {i b:Nat} {T:TypeId} {cs0:List Value} (k:ℓ[i]? = some (.box b T cs0)) (off:Nat) (cs:List Value) (e:(cs0.drop off).take cs.length=cs):WAt w b off cs :=
 ⟨_,_,_,(h.loc _ (mG k)).1,by simpa using e⟩
theorem WAt.cell {w:World} {b off:Nat} {cs:List Value} (h:WAt w b off cs) {j:Nat} {x:Value} (k:cs[j]? = some x):w.cell? ⟨b,off+j,none⟩=some x:=by
 obtain⟨c,T,fr,h1,h2⟩:=h;have hj:j<cs.length:=(List.getElem?_eq_some_iff.1 k).1;have:((c.toList.drop off).take cs.length)[j]? = some x:=by rw[h2];exact k
 rw[List.getElem?_take_of_lt hj,List.getElem?_drop]at this;simp only[World.cell?,h1,Option.isSome_none,Bool.false_eq_true,if_false]
 simpa using this
end
theorem ZLb (b off n:Nat):Addr.add ⟨b,off,none⟩ n=⟨b,off+n,none⟩:=by
 unfold Addr.add;split <;> simp_all
end Go.Eng
namespace Go.Eng
open Go.RowKit
section
variable {P:Program} {ops:Array Oper} {Q:Exit→Act→World→Prop} {a:Act} {w:World} {rest:List Oper}
end
section
variable {P:Program} {K:Nat} {w0:Base} {v0:Zb} {σ:List (Nat×Value)} {ℓ:List Loc} {v:Zb} {a:Act} {w:World}
variable {d:Option Nat} {ty:TypeId} {pos:String} {aft:Array Edge} {g:Option (Nat×Bool)}
theorem Z3 (hS:St K w0 v0 σ ℓ v a w) {x:Operand} {y:Value} (e:ev σ x=some y):(execOp a.eval ⟨d,.move x,ty,pos,aft,g⟩).run P w = .ok (.value y) w:=by
 simp[execOp,hS.eval e]
theorem Z9d (hS:St K w0 v0 σ ℓ v a w) {x:Operand} {y:Value} (e:ev σ x=some y):(execOp a.eval ⟨d,.assign x,ty,pos,aft,g⟩).run P w = .ok (.value y) w:=by
 simp[execOp,hS.eval e]
theorem Zka (hS:St K w0 v0 σ ℓ v a w) {x:Operand} {vs:Array Value} {i:Nat} {y:Value} (e:ev σ x=some (.tuple vs)) (h:vs[i]? = some y) :
  (execOp a.eval ⟨d,.extract x i,ty,pos,aft,g⟩).run P w = .ok (.value y) w:=by
 simp[execOp,hS.eval e,Instr.extract,h]
theorem ZEc (hS:St K w0 v0 σ ℓ v a w) {c x y:Operand} {b:Bool} {z:Value} (e:ev σ c=some (.bool b)) (h:(if b then ev σ x else ev σ y)=some z) :
  (execOp a.eval ⟨d,.pick c x y,ty,pos,aft,g⟩).run P w = .ok (.value z) w:=by
 cases b with
 | true=>simp only[if_true]at h;simp[execOp,hS.eval e,hS.eval h,asBool]
 | false=>simp only[Bool.false_eq_true,if_false]at h;simp[execOp,hS.eval e,hS.eval h,asBool]
structure Sized (P:Program) (t:TypeId) (n:Nat) (agg:Bool):Prop where
 size:∀ w,(sizeOf t).run P w = .ok n w
 agg:∀ w,(isAgg t).run P w = .ok agg w
theorem Zzg {t:TypeId} {z:Value} (hz:∀ w,(zeroValue t).run P w = .ok z w) :
  (execOp a.eval ⟨d,.alloc t,ty,pos,aft,g⟩).run P w = .ok (.value (.pointer (some ⟨w.heap.size,0,none⟩))) (w.alloc (.cells z.cells t)):=by
 simp[execOp,Instr.alloc,hz,newVar,newRow]
theorem Zyo (hS:St K w0 v0 σ ℓ v a w) {t:TypeId} {x:Operand} {y:Value} (e:ev σ x=some y) :
  (execOp a.eval ⟨d,.box t x,ty,pos,aft,g⟩).run P w = .ok (.value (.pointer (some ⟨w.heap.size,0,none⟩))) (w.alloc (.cells y.cells t)):=by
 simp[execOp,Instr.box,hS.eval e,newVar,newRow]
theorem ZPo {t:TypeId} {n b off:Nat} {cs:List Value} (ht:Sized P t n true) (hn:cs.length=n) (hc:WAt w b off cs) :
  (loadVar t ⟨b,off,none⟩).run P w = .ok (.agg cs.toArray) w:=by
 have:=run_loadCells_list (P:=P) w ⟨b,off,none⟩ cs (λj x h=>by rw[ZLb];exact hc.cell h);rw[hn]at this;simp[loadVar,ht.agg,ht.size,this]
theorem Zds {t:TypeId} {n b off:Nat} {x:Value} (ht:Sized P t n false) (hc:WAt w b off [x]) :
  (loadVar t ⟨b,off,none⟩).run P w = .ok x w:=by
 have:=hc.cell (j:=0) (x:=x) rfl;simp only[Nat.add_zero]at this;simp[loadVar,ht.agg,this]
theorem ZOs (hS:St K w0 v0 σ ℓ v a w) {t:TypeId} {x:Operand} {n b off:Nat} {cs:List Value} (e:ev σ x=some (.pointer (some ⟨b,off,none⟩))) (ht:Sized P t n true) (hn:cs.length=n)
  (hc:WAt w b off cs):(execOp a.eval ⟨d,.load t x,ty,pos,aft,g⟩).run P w = .ok (.value (.agg cs.toArray)) w:=by
 simp[execOp,Instr.loadAt,Instr.sureAddr,hS.eval e,ZPo ht hn hc]
theorem Zob (hS:St K w0 v0 σ ℓ v a w) {t:TypeId} {x:Operand} {n b off:Nat} {y:Value} (e:ev σ x=some (.pointer (some ⟨b,off,none⟩))) (ht:Sized P t n false)
  (hc:WAt w b off [y]):(execOp a.eval ⟨d,.load t x,ty,pos,aft,g⟩).run P w = .ok (.value y) w:=by
 simp[execOp,Instr.loadAt,Instr.sureAddr,hS.eval e,Zds ht hc]
def ZFi (P:Program) (s:TypeId) (f off:Nat):Prop:=∀ (b o:Nat) (w:World),(Instr.fieldAt s (.pointer (some ⟨b,o,none⟩)) f).run P w = .ok (.pointer (some ⟨b,o+off,none⟩)) w
theorem Ztk (hS:St K w0 v0 σ ℓ v a w) {s:TypeId} {x:Operand} {f off b o:Nat} (e:ev σ x=some (.pointer (some ⟨b,o,none⟩))) (ht:ZFi P s f off) :
  (execOp a.eval ⟨d,.fieldAddr s x f,ty,pos,aft,g⟩).run P w = .ok (.value (.pointer (some ⟨b,o+off,none⟩))) w:=by
 simp[execOp,hS.eval e,ht b o w]
theorem Z4y (hS:St K w0 v0 σ ℓ v a w) {s:TypeId} {x:Operand} {f:Nat} {y z:Value} (e:ev σ x=some y) (ht:(Instr.field s y f).run P w = .ok z w) :
  (execOp a.eval ⟨d,.field s x f,ty,pos,aft,g⟩).run P w = .ok (.value z) w:=by
 simp[execOp,hS.eval e,ht]
def Zaf (P:Program) (t e:TypeId) (sz:Nat):Prop:=(∀ w,(underlying t).run P w = .ok (.slice e) w)∧∀ w,(sizeOf e).run P w = .ok sz w
theorem Zxa (hS:St K w0 v0 σ ℓ v a w) {t et:TypeId} {sz:Nat} {x i:Operand} {b o n cap:Nat} {k:IntKind} {j:Int} (e:ev σ x=some (.slice (some ⟨b,o,none⟩) n cap)) (ei:ev σ i=some (.int k j))
  (ht:Zaf P t et sz) (h0:0≤j) (h1:j<n):(execOp a.eval ⟨d,.indexAddr t x i,ty,pos,aft,g⟩).run P w = .ok (.value (.pointer (some ⟨b,o+j.toNat*sz,none⟩))) w:=by
 simp[execOp,Instr.indexAt,hS.eval e,hS.eval ei,asIntOf,ht.1,ht.2,h0,h1,ZLb]
theorem Zbe (hS:St K w0 v0 σ ℓ v a w) {t et:TypeId} {sz:Nat} {x:Operand} {q:Option Addr} {n cap:Nat} {ats:Array TypeId} (e:ev σ x=some (.slice q n cap)) (h:ats[0]? = some t) (ht:Zaf P t et sz) :
  (execOp a.eval ⟨d,.call ⟨.builtin .len,#[x],ats⟩,ty,pos,aft,g⟩).run P w = .ok (.value (.int .i64 n)) w:=by
 simp[execOp,resolve,invoke,builtin,Builtin.len_,hS.eval e,h,ht.1,goInt]
end
end Go.Eng
namespace Go.Eng
open Go.RowKit
section
variable {P:Program} {ops:Array Oper} {Q:Exit→Act→World→Prop}
def Zpb (P:Program) (o:Oper) (a:Act) (w:World) (J:Value→World→Prop):Prop :=
 match (execOp a.eval o).run P w with
 | .ok (.value x) w'=>J x w'
 | .ok .skip w'=>J undef w'
 | .ok (.enter f args) w'=>Calls P f args w' λe w''=>∃ r,e = .returned r∧J r w''
 | _=>False
theorem ZYe {o:Oper} {a:Act} {w w':World} {x:Value} {J:Value→World→Prop} (h:(execOp a.eval o).run P w = .ok (.value x) w') (k:J x w'):Zpb P o a w J:=by
 unfold Zpb;rw[h];exact k
theorem Zjm {o:Oper} {a:Act} {w w':World} {J:Value→World→Prop} (h:(execOp a.eval o).run P w = .ok .skip w') (k:J undef w'):Zpb P o a w J:=by
 unfold Zpb;rw[h];exact k
theorem ZXc {o:Oper} {a:Act} {w w':World} {f:FuncId} {args:Array Value} {J:Value→World→Prop} (h:(execOp a.eval o).run P w = .ok (.enter f args) w')
  (k:Calls P f args w' λe w''=>∃ r,e = .returned r∧J r w''):Zpb P o a w J:=by
 unfold Zpb;rw[h];exact k
theorem ZRf {o:Oper} {a:Act} {w:World} {J J':Value→World→Prop} (h:Zpb P o a w J) (k:∀ x w',J x w'→J' x w'):Zpb P o a w J':=by
 unfold Zpb at *;split at h
 ·exact k _ _ h
 ·exact k _ _ h
 ·exact h.mono λe w'' ⟨r,e1,e2⟩=>⟨r,e1,k _ _ e2⟩
 ·exact h
theorem ZVi {o:Oper} {a r:Act} {w:World} {J:Value→World→Prop} {K:Act→World→Prop} (he:execOp r.eval o=execOp a.eval o) (h:Zpb P o a w J)
  (k:∀ x w',J x w'→K (r.put o.dst x) w'):o.wp P r w K Q:=by
 unfold Oper.wp;rw[he];unfold Zpb at h;split at h
 ·rename_i hr;rw[hr];exact k _ _ h
 ·rename_i hr;rw[hr];exact k _ _ h
 ·rename_i hr;rw[hr,Oper.upon_enter];refine h.mono ?_;rintro e w'' ⟨x,rfl,hx⟩;exact k _ _ hx
 ·exact h.elim
def ZWc (P:Program) (ops:Array Oper) (o:Oper) (a:Act) (w:World):Prop :=
 ∃ d,o.dst=some d∧(Region.wanted o (yielded ops a.tmps)=true→(execOp a.eval o).run P w = .ok (.value (a.tmps.getD d undef)) w) ∧
  (Region.wanted o (yielded ops a.tmps)=false→a.tmps.getD d undef=undef)
def ZFb (ops:Array Oper) (j i:Nat):Bool:=match ops[j]? with
 | some o=>o.after.any λe=>Region.binds .any e&&e.on==i
 | none=>false
def okF (ops:Array Oper) (fl:Array Bool):Bool :=
 (fl.size==ops.size) &&
 ((List.range ops.size).all λi=>match ops[i]? with
  | some o=>(o.after.all λe=>!Region.binds .any e || decide (e.on<i))&&(match o.op with | .select _ _=>false | _=>true)
  | none=>false) &&
 ((List.range ops.size).all λg=>!fl.getD g false || match ops[g]? with
  | some o=>(match o.dst with
   | some d=>(List.range ops.size).all λj=>match ops[j]? with
    | some oj=>(!(oj.looksAt ops).contains d || ZFb ops j g)&&(j==g || oj.dst != some d)
    | none=>true
   | none=>false)
  | none=>false)
structure OkF (ops:Array Oper) (fl:Array Bool):Prop where
 back:∀ (i:Nat) (o:Oper),ops[i]? = some o→∀ e ∈ o.after,Region.binds .any e=true→e.on<i
 nosel:∀ (i:Nat) (o:Oper),ops[i]? = some o→∀ cs b,o.op≠Op.select cs b
 look:∀ (g:Nat) (o:Oper) (d:Nat),ops[g]? = some o→fl.getD g false=true→o.dst=some d→∀ (j:Nat) (oj:Oper),ops[j]? = some oj→d ∈ oj.looksAt ops→ZFb ops j g=true
 sole:∀ (g:Nat) (o:Oper) (d:Nat),ops[g]? = some o→fl.getD g false=true→o.dst=some d→∀ (j:Nat) (oj:Oper),ops[j]? = some oj→j≠g→oj.dst≠some d
 dst:∀ (g:Nat) (o:Oper),ops[g]? = some o→fl.getD g false=true→∃ d,o.dst=some d
theorem ZCo {fl:Array Bool} (h:okF ops fl=true):OkF ops fl:=by
 simp only[okF,Bool.and_eq_true,List.all_eq_true,List.mem_range]at h;obtain⟨⟨_,h1⟩,h2⟩:=h;have lt:∀ {i o},ops[i]? = some o→i<ops.size:=λe=>(Array.getElem?_eq_some_iff.1 e).1;have g1:∀ (g:Nat) (o:Oper),ops[g]? = some o→fl.getD g false=true→∃ d,o.dst=some d∧∀ (j:Nat) (oj:Oper),ops[j]? = some oj→((d ∈ oj.looksAt ops→ZFb ops j g=true)∧(j≠g→oj.dst≠some d)):=by
  intro g o hg hf;have:=h2 g (lt hg);simp only[hf,Bool.not_true,Bool.false_or,hg]at this
  cases hd:o.dst with
  | none=>simp[hd]at this
  | some d =>
   simp only[hd,List.all_eq_true,List.mem_range]at this;refine⟨d,rfl,λj oj hj=>?_⟩;have t:=this j (lt hj);simp only[hj,Bool.and_eq_true,Bool.or_eq_true,Bool.not_eq_true',beq_iff_eq,bne_iff_ne]at t;refine⟨λhm=>?_,λhne=>?_⟩
   ·rcases t.1 with t1 | t1
    ·simp at t1;exact absurd hm t1
    ·exact t1
   ·rcases t.2 with t2 | t2
    ·exact absurd t2 hne
    ·exact t2
 refine⟨λi o hi e he hb=>?_,λi o hi cs b hc=>?_,λg o d hg hf hd j oj hj hm=>?_,λg o d hg hf hd j oj hj hne=>?_,λg o hg hf=>?_⟩
 ·have:=h1 i (lt hi);simp only[hi,Bool.and_eq_true,Array.all_eq_true']at this;have t:=this.1 e he
  simpa [hb] using t
 ·have:=h1 i (lt hi);simp[hi,hc]at this
 ·obtain⟨d',e',k⟩:=g1 g o hg hf;rw[hd]at e';cases e';exact (k j oj hj).1 hm
 ·obtain⟨d',e',k⟩:=g1 g o hg hf;rw[hd]at e';cases e';exact (k j oj hj).2 hne
 ·obtain⟨d',e',_⟩:=g1 g o hg hf;exact⟨d',e'⟩
structure Sim (P:Program) (ops:Array Oper) (fl E listed:Array Bool) (a r:Act) (w:World):Prop where
 size:listed.size=ops.size
 sub:∀ j,listed.getD j false=true→E.getD j false=true
 closed:∀ (j:Nat) (o:Oper),ops[j]? = some o→listed.getD j false=true→∀ e ∈ o.after,Region.binds .any e=true→listed.getD e.on false=true
 pend:∀ (j:Nat) (o:Oper),ops[j]? = some o→E.getD j false=true→listed.getD j false=false→fl.getD j false=true∧ZWc P ops o a w
 tmps:r.tmps.size=a.tmps.size
 dfr:r.defers=a.defers
 agree:∀ t,(∀ (j:Nat) (o:Oper),ops[j]? = some o→E.getD j false=true→listed.getD j false=false→o.dst≠some t)→r.tmps.getD t undef=a.tmps.getD t undef
def left (listed:Array Bool):Nat:=(listed.toList.filter (! ·)).length
def Rg (P:Program) (ops:Array Oper) (Q:Exit→Act→World→Prop) (fl E:Array Bool) (a:Act) (w:World):Prop :=
 E.size=ops.size→(∀ (j:Nat) (o:Oper),ops[j]? = some o→E.getD j false=true→∀ e ∈ o.after,Region.binds .any e=true→E.getD e.on false=true) →
 ∀ fuel listed r,left listed=fuel→Sim P ops fl E listed a r w→wpAny P .any ops Q fuel listed r w
theorem Zni {listed:Array Bool} {i:Nat} (h:listed.getD i true=false):left (listed.setIfInBounds i true)+1=left listed:=by
 have hi:i<listed.size:=by
  rcases Nat.lt_or_ge i listed.size with h' | h'
  ·exact h'
  ·simp[Array.getElem?_eq_none h']at h
 have hv:listed.toList[i]? = some false:=by
  simp[hi]at h;simp[hi,h]
 unfold left;rw[Array.toList_setIfInBounds];generalize listed.toList=l at hv;clear h hi
 induction l generalizing i with
 | nil=>simp at hv
 | cons x l ih =>
  cases i with
  | zero=>simp at hv;subst hv;simp
  | succ i =>
   simp at hv;have:=ih hv
   cases x <;> simp at this ⊢ <;> omega
theorem Z8b {listed:Array Bool} {j:Nat} (hj:j<listed.size):listed.getD j true=listed.getD j false:=by simp[hj]
theorem Zrm {listed:Array Bool} (h:left listed=0) {j:Nat}:listed.getD j true=true:=by
 unfold left at h;have h':∀ x ∈ listed.toList,x=true:=by
  intro x hx;have:=List.filter_eq_nil_iff.1 (List.length_eq_zero_iff.1 h) x hx
  simpa using this
 rcases Nat.lt_or_ge j listed.size with hj | hj
 ·have:=h' listed[j] (by simp);simp[hj,this]
 ·simp[Array.getElem?_eq_none hj]
theorem Sim.eval {fl E listed:Array Bool} {a r:Act} {w:World} (hF:OkF ops fl) (s:Sim P ops fl E listed a r w) {i:Nat} {o:Oper} (hi:ops[i]? = some o)
  (hp:∀ e ∈ o.after,Region.binds .any e=true→listed.getD e.on false=true):execOp r.eval o=execOp a.eval o∧Region.wanted o (yielded ops r.tmps)=Region.wanted o (yielded ops a.tmps):=by
 have key:∀ t,t ∈ o.looksAt ops→r.tmps.getD t undef=a.tmps.getD t undef:=by
  intro t ht;refine s.agree t λj oj hj hE hl hd=>?_;have hf:=(s.pend j oj hj hE hl).1;have:=hF.look j oj t hj hf hd i o hi ht;simp only[ZFb,hi]at this;obtain⟨e,he,hb⟩:=Array.any_eq_true'.1 this;simp only[Bool.and_eq_true,beq_iff_eq]at hb;have:=hp e he hb.1;rw[hb.2,hl]at this;cases this
 constructor
 ·refine execOp_congr o (hF.nosel i o hi) λx hx=>?_
  cases x with
  | tmp t=>exact key t (List.mem_append_left _ (List.mem_filterMap.2 ⟨.tmp t,by simpa using hx,rfl⟩))
  | _=>rfl
 ·unfold Region.wanted
  cases hg:o.guard with
  | none=>rfl
  | some gw =>
   obtain⟨g,want⟩:=gw;have hy:yielded ops r.tmps g=yielded ops a.tmps g:=by
    unfold yielded
    cases ht:(ops[g]?).bind (·.dst) with
    | none=>rfl
    | some t =>
     have h1:=key t (by simp[Oper.looksAt,hg,ht]);simp only[Option.bind_some];rcases Nat.lt_or_ge t a.tmps.size with hlt | hge
     ·have hlt':t<r.tmps.size:=by rw[s.tmps];exact hlt
      simp[hlt,hlt']at h1;simp[hlt,hlt',h1]
     ·simp[Array.getElem?_eq_none hge,Array.getElem?_eq_none (show r.tmps.size≤t by rw[s.tmps];exact hge)]
   simp only[hy]
theorem Z0a {l:Array Bool} {i j:Nat} {b:Bool} (h:i≠j):(l.setIfInBounds i true).getD j b=l.getD j b:=getD_set_ne b h
theorem ZUb {l:Array Bool} {i:Nat} {b:Bool} (h:i<l.size):(l.setIfInBounds i true).getD i b=true:=by simp[h]
theorem Znd {a:Act} {d t:Nat} {x:Value} (h:d≠t):(a.put (some d) x).tmps.getD t undef=a.tmps.getD t undef:=by
 simp[Act.put,Array.getElem?_setIfInBounds_ne h]
theorem Z9f {a:Act} {d:Nat} {x:Value} (h:d<a.tmps.size):(a.put (some d) x).tmps.getD d undef=x:=by
 simp[Act.put,h]
theorem Zol {a:Act} {d:Nat} {x:Value} (h:a.tmps.size≤d):(a.put (some d) x).tmps.getD d undef=undef:=by
 have:¬ d<a.tmps.size:=Nat.not_lt.2 h;simp[Act.put,this]
theorem ZUi {a:Act} {d:Option Nat} {x:Value}:(a.put d x).tmps.size=a.tmps.size:=by cases d <;> simp[Act.put]
theorem Zlk {a:Act} {d:Option Nat} {x:Value}:(a.put d x).defers=a.defers:=by cases d <;> simp[Act.put]
theorem ZLq {fl E E':Array Bool} {a:Act} {w:World} (hF:OkF ops fl) (f:Nat) {o:Oper} {d:Nat} {x:Value} (hi:ops[f]? = some o) (hfl:fl.getD f false=true) (hd:o.dst=some d) (hK:d<a.tmps.size)
  (hr:f ∈ Region.ready .any ops E) (hE':E'=E.setIfInBounds f true)
  (hx:(Region.wanted o (yielded ops a.tmps)=true∧(execOp a.eval o).run P w = .ok (.value x) w)∨(Region.wanted o (yielded ops a.tmps)=false∧x=undef))
  (h:Rg P ops Q fl E' (a.put (some d) x) w):Rg P ops Q fl E a w:=by
 subst hE';intro hsz hcl fuel listed r hfuel s;obtain⟨hun,o',ho',hall⟩:=mem_ready.1 hr;rw[hi]at ho';cases ho';have hfs:f<E.size:=by
  rcases Nat.lt_or_ge f E.size with h' | h'
  ·exact h'
  ·simp[Array.getElem?_eq_none h']at hun
 have hun':E.getD f false=false:=by rw[← Z8b hfs];exact hun
 have hlf:listed.getD f false=false:=by
  cases hl:listed.getD f false with
  | false=>rfl
  | true=>rw[s.sub f hl]at hun';cases hun'
 have notlook:∀ (j:Nat) (oj:Oper),ops[j]? = some oj→(∀ e ∈ oj.after,Region.binds .any e=true→E.getD e.on false=true)→d ∉ oj.looksAt ops:=by
  intro j oj hj hc hm;have:=hF.look f o d hi hfl hd j oj hj hm;simp only[ZFb,hj]at this;obtain⟨e,he,hb⟩:=Array.any_eq_true'.1 this;simp only[Bool.and_eq_true,beq_iff_eq]at hb;have:=hc e he hb.1;rw[hb.2,hun']at this;cases this
 refine h (by simp[hsz]) (λj oj hj hEj e he hb=>?_) fuel listed r hfuel ?_
 ·by_cases hjf:f=j
  ·subst hjf;rw[hi]at hj;cases hj;have:=hall e he hb;by_cases hef:f=e.on
   ·rw[← hef];exact ZUb hfs
   ·rw[Z0a hef];exact this
  ·rw[Z0a hjf]at hEj;have:=hcl j oj hj hEj e he hb;by_cases hef:f=e.on
   ·rw[← hef];exact ZUb hfs
   ·rw[Z0a hef];exact this
 ·refine⟨s.size,λj hj=>?_,s.closed,λj oj hj hEj hl=>?_,by rw[ZUi];exact s.tmps,by rw[Zlk];exact s.dfr,λt ht=>?_⟩
  ·by_cases hjf:f=j
   ·subst hjf;exact ZUb hfs
   ·rw[Z0a hjf];exact s.sub j hj
  ·by_cases hjf:f=j
   ·subst hjf;rw[hi]at hj;cases hj;have hn:=notlook f o hi hall;have he:=execOp_put o (hF.nosel f o hi) a (some d) x (ops:=ops) (λd' hd'=>by cases hd';exact hn);have hw:=wanted_put (ops:=ops) o a (some d) x (λd' hd'=>by cases hd';exact hn);refine⟨hfl,d,hd,?_,?_⟩
    ·rw[hw,he,Z9f hK];intro hwt;rcases hx with hx | hx
     ·exact hx.2
     ·rw[hx.1]at hwt;cases hwt
    ·rw[hw,Z9f hK];intro hwt;rcases hx with hx | hx
     ·rw[hx.1]at hwt;cases hwt
     ·exact hx.2
   ·rw[Z0a hjf]at hEj;obtain⟨hfj,dj,hdj,k1,k2⟩:=s.pend j oj hj hEj hl;have hn:=notlook j oj hj (hcl j oj hj hEj);have he:=execOp_put oj (hF.nosel j oj hj) a (some d) x (ops:=ops) (λd' hd'=>by cases hd';exact hn);have hw:=wanted_put (ops:=ops) oj a (some d) x (λd' hd'=>by cases hd';exact hn);have hne:d≠dj:=λe=>hF.sole f o d hi hfl hd j oj hj (λe=>hjf e.symm) (e ▸ hdj);exact⟨hfj,dj,hdj,by rw[hw,he,Znd hne];exact k1,by rw[hw,Znd hne];exact k2⟩
  ·have hne:d≠t:=λe=>ht f o hi (ZUb hfs) hlf (e ▸ hd);rw[Znd hne];refine s.agree t λj oj hj hEj hl=>ht j oj hj ?_ hl;by_cases hjf:f=j
   ·subst hjf;exact ZUb hfs
   ·rw[Z0a hjf];exact hEj
theorem Zgc {i:Nat} {o:Oper} (h:ops[i]? = some o):i<ops.size:=(Array.getElem?_eq_some_iff.1 h).1
theorem Zwp {fl:Array Bool} (hF:OkF ops fl) {listed:Array Bool} (hs:listed.size=ops.size):∀ (n j:Nat),j<n→j<ops.size→listed.getD j true=false→Region.ready .any ops listed≠[]
 | 0,j,h,_,_=>by omega
 | n+1,j,h,hj,hl=>by
  intro h0
  by_cases hp:∃ e ∈ (ops[j]).after,Region.binds .any e=true∧listed.getD e.on false=false
  ·obtain⟨e,he,hb,hn⟩:=hp
   have hlt:=hF.back j ops[j] (by simp[hj]) e he hb
   refine Zwp hF hs n e.on (by omega) (by omega) ?_ h0
   rw[Z8b (by omega)];exact hn
  ·have:j ∈ Region.ready .any ops listed:=mem_ready.2 ⟨hl,ops[j],by simp[hj],λe he hb=>by
    cases hx:listed.getD e.on false with
    | true=>rfl
    | false=>exact absurd ⟨e,he,hb,hx⟩ hp⟩
   rw[h0]at this;cases this
theorem Z6l {listed:Array Bool} (h:left listed≠0):∃ j,j<listed.size∧listed.getD j true=false:=by
 unfold left at h;obtain⟨x,hx⟩:=List.exists_mem_of_length_pos (Nat.pos_of_ne_zero h);obtain⟨hm,hv⟩:=List.mem_filter.1 hx;obtain⟨j,hj⟩:=List.getElem?_of_mem hm;have hlt:j<listed.size:=by
  have:=(List.getElem?_eq_some_iff.1 hj).1
  simpa using this
 refine⟨j,hlt,?_⟩
 cases x
 ·have h1:listed.toList[j]? = some listed[j]:=by simp[hlt]
  rw[h1]at hj;have h2:=Option.some.inj hj;simp[hlt,h2]
 ·simp at hv
def Zld (ops:Array Oper) (p:Nat):List Nat→List Nat→Bool
 | _,[]=>true
 | seen,g :: r=>(ZFb ops p g || seen.any λh=>ZFb ops h g)&&Zld ops p (g :: seen) r
theorem Zyp {p:Nat} {o:Oper} {listed:Array Bool} (hp:ops[p]? = some o) (hall:∀ e ∈ o.after,Region.binds .any e=true→listed.getD e.on false=true)
  (hc:∀ (j:Nat) (o:Oper),ops[j]? = some o→listed.getD j false=true→∀ e ∈ o.after,Region.binds .any e=true→listed.getD e.on false=true) :
  ∀ (l seen:List Nat),Zld ops p seen l=true→(∀ g ∈ seen,listed.getD g false=true)→∀ g ∈ l,listed.getD g false=true
 | [],_,_,_,g,hg=>by cases hg
 | x :: l,seen,h,hs,g,hg=>by
  simp only[Zld,Bool.and_eq_true,Bool.or_eq_true]at h
  have hx:listed.getD x false=true:=by
   rcases h.1 with h1 | h1
   ·simp only[ZFb,hp]at h1;obtain⟨e,he,hb⟩:=Array.any_eq_true'.1 h1;simp only[Bool.and_eq_true,beq_iff_eq]at hb;rw[← hb.2];exact hall e he hb.1
   ·obtain⟨y,hy,h1⟩:=List.any_eq_true.1 h1;unfold ZFb at h1;split at h1
    ·rename_i oy hoy;obtain⟨e,he,hb⟩:=Array.any_eq_true'.1 h1;simp only[Bool.and_eq_true,beq_iff_eq]at hb;rw[← hb.2];exact hc y oy hoy (hs y hy) e he hb.1
    ·cases h1
  rcases List.mem_cons.1 hg with rfl | hg
  ·exact hx
  ·exact Zyp hp hall hc l (x :: seen) h.2 (λz hz=>by
    rcases List.mem_cons.1 hz with rfl | hz
    ·exact hx
    ·exact hs z hz) g hg
def Next (P:Program) (ops:Array Oper) (Q:Exit→Act→World→Prop) (fl E:Array Bool) (a:Act) (w:World) (p:Nat):Prop :=
  ∃ (o:Oper) (A J:List Nat),ops[p]? = some o∧Zld ops p [] A=true∧((List.range ops.size).all λj=>!(E.getD j false&&fl.getD j false) || A.contains j || J.contains j)=true ∧
    (if Region.wanted o (yielded ops a.tmps) then Zpb P o a w (λx w'=>(∀ j ∈ J,∀ oj,ops[j]? = some oj→ZWc P ops oj (a.put o.dst x) w')∧Rg P ops Q fl (E.setIfInBounds p true) (a.put o.dst x) w')
     else (∀ j ∈ J,∀ oj,ops[j]? = some oj→ZWc P ops oj (a.put o.dst undef) w)∧Rg P ops Q fl (E.setIfInBounds p true) (a.put o.dst undef) w)
theorem Zdh {fl E:Array Bool} {a:Act} {w:World} (hF:OkF ops fl) (hend:Region.ready .any ops E=[]→Q .normal a w) (h:∀ p ∈ Region.ready .any ops E,Next P ops Q fl E a w p):Rg P ops Q fl E a w:=by
 intro hsz hcl fuel
 induction fuel with
 | zero =>
  intro listed r hfuel s;have hall:∀ j,listed.getD j true=true:=λj=>Zrm hfuel;have hallf:∀ j o,ops[j]? = some o→listed.getD j false=true:=λj o hj=>by
   rw[← Z8b (by rw[s.size];exact Zgc hj)];exact hall j
  have hra:r=a:=by
   have ht:r.tmps=a.tmps:=by
    refine Array.ext s.tmps λi h1 h2=>?_;have:=s.agree i (λj o hj _ hl=>by rw[hallf j o hj]at hl;cases hl)
    simpa [h1,h2] using this
   have hd:=s.dfr
   cases r;cases a;simp_all
  subst hra;have hE0:Region.ready .any ops E=[]:=by
   cases hx:Region.ready .any ops E with
   | nil=>rfl
   | cons p l =>
    obtain⟨hun,o,ho,_⟩:=mem_ready.1 (show p ∈ Region.ready .any ops E by rw[hx];simp);have:=s.sub p (hallf p o ho);rw[Z8b (by rw[hsz];exact Zgc ho),this]at hun
    cases hun
  refine⟨?_,hend hE0⟩
  cases hx:Region.ready .any ops listed with
  | nil=>rfl
  | cons p l =>
   obtain⟨hun,_⟩:=mem_ready.1 (show p ∈ Region.ready .any ops listed by rw[hx];simp);rw[hall p]at hun;cases hun
 | succ fuel ih =>
  intro listed r hfuel s;refine⟨λh0=>?_,λi hi=>?_⟩
  ·obtain⟨j,hj,hl⟩:=Z6l (show left listed≠0 by omega);exact absurd h0 (Zwp hF s.size (j+1) j (by omega) (by rw[← s.size];exact hj) hl)
  ·obtain⟨hun,o,ho,hall⟩:=mem_ready.1 hi;have his:i<listed.size:=by rw[s.size];exact Zgc ho
   have hunf:listed.getD i false=false:=by rw[← Z8b his];exact hun
   have hiE:i<E.size:=by rw[hsz];exact Zgc ho
   obtain⟨hev,hwd⟩:=s.eval hF ho hall;have hfuel':left (listed.setIfInBounds i true)=fuel:=by have:=Zni hun;omega
   have hclosed:∀ (j:Nat) (oj:Oper),ops[j]? = some oj→(listed.setIfInBounds i true).getD j false=true→∀ e ∈ oj.after,Region.binds .any e=true→(listed.setIfInBounds i true).getD e.on false=true:=by
    intro j oj hj hlj e he hb;have:listed.getD e.on false=true:=by
     by_cases hij:i=j
     ·subst hij;rw[ho]at hj;cases hj;exact hall e he hb
     ·rw[Z0a hij]at hlj;exact s.closed j oj hj hlj e he hb
    by_cases hie:i=e.on
    ·rw[← hie];exact ZUb his
    ·rw[Z0a hie];exact this
   unfold wpOp;simp only[ho];rw[hwd];by_cases hEi:E.getD i false=true
   ·obtain⟨hfi,d,hd,k1,k2⟩:=s.pend i o ho hEi hunf;have next:wpAny P .any ops Q fuel (listed.setIfInBounds i true) (r.put (some d) (a.tmps.getD d undef)) w:=by
     refine ih _ _ hfuel' ⟨by simp[s.size],λj hj=>?_,hclosed,λj oj hj hEj hl=>?_,by rw[ZUi];exact s.tmps,by rw[Zlk];exact s.dfr,λt ht=>?_⟩
     ·by_cases hij:i=j
      ·subst hij;exact hEi
      ·rw[Z0a hij]at hj;exact s.sub j hj
     ·by_cases hij:i=j
      ·subst hij;rw[ZUb his]at hl;cases hl
      ·rw[Z0a hij]at hl;exact s.pend j oj hj hEj hl
     ·by_cases hdt:d=t
      ·subst hdt;rcases Nat.lt_or_ge d r.tmps.size with h1 | h1
       ·rw[Z9f h1]
       ·have h2:a.tmps.size≤d:=by rw[← s.tmps];exact h1
        rw[Zol h1];simp[Array.getElem?_eq_none h2]
      ·rw[Znd hdt];refine s.agree t λj oj hj hEj hl=>?_;by_cases hij:i=j
       ·subst hij;rw[ho]at hj;cases hj;rw[hd];exact λe=>hdt (Option.some.inj e)
       ·exact ht j oj hj hEj (by rw[Z0a hij];exact hl)
    by_cases hw:Region.wanted o (yielded ops a.tmps)=true
    ·rw[iP hw];refine .inl ?_;unfold Oper.wp;rw[hev,k1 hw,Oper.upon_value,hd];exact next
    ·rw[iN hw,hd];rw[k2 (by simpa using hw)]at next;exact next
   ·have hEif:E.getD i false=false:=by simpa using hEi
    have hready:i ∈ Region.ready .any ops E:=mem_ready.2 ⟨by rw[Z8b hiE];exact hEif,o,ho,λe he hb=>s.sub _ (hall e he hb)⟩;obtain⟨o',A,J,ho',hA,hAJ,hstep⟩:=h i hready;rw[ho]at ho';cases ho';have hAl:=Zyp ho hall s.closed A [] hA (λg hg=>by cases hg);have sim:∀ (x:Value) (w':World),(∀ j ∈ J,∀ oj,ops[j]? = some oj→ZWc P ops oj (a.put o.dst x) w')→Rg P ops Q fl (E.setIfInBounds i true) (a.put o.dst x) w' →
      wpAny P .any ops Q fuel (listed.setIfInBounds i true) (r.put o.dst x) w':=by
     intro x w' hJ hRg;have hEclosed:∀ (j:Nat) (oj:Oper),ops[j]? = some oj→(E.setIfInBounds i true).getD j false=true→∀ e ∈ oj.after,Region.binds .any e=true→(E.setIfInBounds i true).getD e.on false=true:=by
      intro j oj hj hlj e he hb;have:E.getD e.on false=true:=by
       by_cases hij:i=j
       ·subst hij;rw[ho]at hj;cases hj;exact s.sub _ (hall e he hb)
       ·rw[Z0a hij]at hlj;exact hcl j oj hj hlj e he hb
      by_cases hie:i=e.on
      ·rw[← hie];exact ZUb hiE
      ·rw[Z0a hie];exact this
     refine hRg (by simp[hsz]) hEclosed fuel _ _ hfuel' ⟨by simp[s.size],λj hj=>?_,hclosed,λj oj hj hEj hl=>?_,by rw[ZUi,ZUi];exact s.tmps,by rw[Zlk,Zlk];exact s.dfr,λt ht=>?_⟩
     ·by_cases hij:i=j
      ·subst hij;exact ZUb hiE
      ·rw[Z0a hij]at hj ⊢;exact s.sub j hj
     ·by_cases hij:i=j
      ·subst hij;rw[ZUb his]at hl;cases hl
      ·rw[Z0a hij]at hEj hl;obtain⟨hfj,_⟩:=s.pend j oj hj hEj hl;refine⟨hfj,hJ j ?_ oj hj⟩;have:=List.all_eq_true.1 hAJ j (List.mem_range.2 (Zgc hj));simp only[hEj,hfj,Bool.and_self,Bool.not_true,Bool.false_or,Bool.or_eq_true]at this;rcases this with t | t
       ·have:=hAl j (by simpa using t);rw[hl]at this;cases this
       ·simpa using t
     ·have base:(∀ d,o.dst=some d→d≠t)→(r.put o.dst x).tmps.getD t undef=(a.put o.dst x).tmps.getD t undef:=by
       intro hne
       cases hd:o.dst with
       | none =>
        exact s.agree t λj oj hj hEj hl=>ht j oj hj (by
         by_cases hij:i=j
         ·subst hij;exact ZUb hiE
         ·rw[Z0a hij];exact hEj) (by
         by_cases hij:i=j
         ·subst hij;rw[hEif]at hEj;cases hEj
         ·rw[Z0a hij];exact hl)
       | some d =>
        rw[Znd (hne d hd),Znd (hne d hd)];exact s.agree t λj oj hj hEj hl=>ht j oj hj (by
         by_cases hij:i=j
         ·subst hij;exact ZUb hiE
         ·rw[Z0a hij];exact hEj) (by
         by_cases hij:i=j
         ·subst hij;rw[hEif]at hEj;cases hEj
         ·rw[Z0a hij];exact hl)
      cases hd:o.dst with
      | none=>rw[← hd];exact base (λd e=>by rw[hd]at e;cases e)
      | some d =>
       by_cases hdt:d=t
       ·subst hdt;rcases Nat.lt_or_ge d r.tmps.size with h1 | h1
        ·rw[Z9f h1,Z9f (by rw[← s.tmps];exact h1)]
        ·have h2:a.tmps.size≤d:=by rw[← s.tmps];exact h1
         rw[Zol h1,Zol h2]
       ·rw[← hd];exact base (λd' e=>by rw[hd]at e;cases e;exact hdt)
    by_cases hw:Region.wanted o (yielded ops a.tmps)=true
    ·rw[iP hw]at hstep ⊢;exact .inl (ZVi hev hstep λx w' ⟨hJ,hRg⟩=>sim x w' hJ hRg)
    ·rw[iN hw]at hstep ⊢;exact sim undef w hstep.1 hstep.2
theorem Z2u {id:Nat} {l:List Oper} {fl:Array Bool} {a:Act} {w:World} (hm:P.follows .mixedOrders=true)
  (h:Rg P l.toArray Q fl (Array.replicate l.length false) a w.drew):(Code.region id l.toArray true).wp P Q a w:=by
 refine wp_region_any hm ?_;have hz:∀ j,(Array.replicate l.length false).getD j false=false:=λj=>getD_replicate_false _ _;have hl:left (Array.replicate l.length false)=l.length:=by
  simp[left]
 have:=h (by simp) (λj o _ hj=>absurd ((hz j).symm.trans hj) (by simp)) _ (Array.replicate l.length false) a hl
  ⟨by simp,λj hj=>hj,λj o _ hj=>absurd ((hz j).symm.trans hj) (by simp),λj o _ hj=>absurd ((hz j).symm.trans hj) (by simp),rfl,rfl,λ_ _=>rfl⟩
 simpa using this
end
end Go.Eng
namespace Go.Eng
open Go.RowKit
section
variable {P:Program} {K:Nat} {w0:Base} {v0:Zb} {σ:List (Nat×Value)} {ℓ:List Loc} {v:Zb} {a:Act} {w:World}
variable {ops:Array Oper} {Q:Exit→Act→World→Prop} {rest:List Oper}
theorem St.drew (h:St K w0 v0 σ ℓ v a w):St K w0 v0 σ ℓ v a w.drew:=h.step (Ext.drew w) (VStep.ext h.vin (Ext.drew w))
theorem ZXg (w:World) (b k:Nat) (c:Array Value) (h:k≠b):(w.setRow b c).heap[k]? = w.heap[k]?:=setRow_other w b k c h
theorem ZHw {w0:Base} {w:World} (x:ExtB w0 w) {b:Nat} (hb:w0.wd.heap.size≤b∨b ∈ w0.lent) (c:Array Value):ExtB w0 (w.setRow b c) :=
 ⟨x.os,x.tape,x.output,by simp[World.setRow];exact x.size,λk hk hn=>by rw[ZXg _ _ _ _ (by rintro rfl;rcases hb with h | h;omega;exact hn h)];exact x.block k hk hn⟩
theorem Z0w {w:World} {b:Nat} {c:Array Value} {e:Loc} (k:e.holds w) (hb:∀ b',e.blk=some b'→b'≠b):e.holds (w.setRow b c):=by
 cases e with
 | box b' T cs=>show _=_;rw[ZXg _ _ _ _ (hb b' rfl)];exact k
 | own b' T sz n cap cs =>
  cases b' with
  | none=>exact k
  | some b'=>obtain⟨h1,c',h2,h3⟩:=k;exact⟨h1,c',by rw[ZXg _ _ _ _ (hb b' rfl)];exact h2,h3⟩
 | mp b' l=>obtain⟨es,c',h1,h2⟩:=k;exact⟨es,c',by rw[ZXg _ _ _ _ (hb b' rfl)];exact h1,h2⟩
 | it b' s p=>show _=_;rw[ZXg _ _ _ _ (hb b' rfl)];exact k
theorem ZJn {ℓ:List Loc} {i:Nat} {e e':Loc} (h:ℓ[i]? = some e) (hb:e'.blk=e.blk):(ℓ.set i e').filterMap Loc.blk=ℓ.filterMap Loc.blk:=by
 induction ℓ generalizing i with
 | nil=>simp at h
 | cons x l ih =>
  cases i with
  | zero=>simp at h;subst h;simp[List.filterMap_cons,hb]
  | succ i=>simp at h;simp[List.filterMap_cons,ih h]
theorem Zph {ℓ:List Loc} {i:Nat} {e:Loc} {b:Nat} (hn:(ℓ.filterMap Loc.blk).Nodup) (h:ℓ[i]? = some e) (hb:e.blk=some b) :
  ∀ (j:Nat) (x:Loc),ℓ[j]? = some x→j≠i→∀ b',x.blk=some b'→b'≠b:=by
 induction ℓ generalizing i with
 | nil=>simp at h
 | cons y l ih =>
  intro j x hj hji b' hb' he;subst he
  cases i with
  | zero =>
   simp at h;subst h
   cases j with
   | zero=>exact hji rfl
   | succ j =>
    simp at hj;rw[List.filterMap_cons_some hb]at hn;exact (List.nodup_cons.1 hn).1 (List.mem_filterMap.2 ⟨x,mG hj,hb'⟩)
  | succ i =>
   simp at h
   cases j with
   | zero =>
    simp at hj;subst hj;rw[List.filterMap_cons_some hb']at hn;exact (List.nodup_cons.1 hn).1 (List.mem_filterMap.2 ⟨e,mG h,hb⟩)
   | succ j =>
    simp at hj;have hn':(l.filterMap Loc.blk).Nodup:=by
     cases hy:y.blk with
     | none=>rw[List.filterMap_cons_none hy]at hn;exact hn
     | some by'=>rw[List.filterMap_cons_some hy]at hn;exact (List.nodup_cons.1 hn).2
    exact ih hn' h j x hj (by omega) b' hb' rfl
theorem St.setRow (h:St K w0 v0 σ ℓ v a w) {i b:Nat} {e e':Loc} {c:Array Value} (hi:ℓ[i]? = some e) (hb:e.blk=some b) (hb':e'.blk=some b) (hh:e'.holds (w.setRow b c)) :
  St K w0 v0 σ (ℓ.set i e') v a (w.setRow b c):=by
 obtain⟨he,hv⟩:=h.loc e (mG hi);obtain⟨hge,hnone⟩:=hv b hb;have hx:=ZHw h.ext hge c;refine⟨h.size,h.dfr,h.fr,hx,⟨h.vst.le,λk o hk=>?_,h.vst.old⟩,λx hx'=>?_,?_⟩
 ·rw[ZXg _ _ _ _ (λe=>by subst e;rw[hnone]at hk;cases hk)];exact h.vin k o hk
 ·obtain⟨j,hj⟩:=List.getElem?_of_mem hx';by_cases hji:j=i
  ·subst hji;have hlt:j<ℓ.length:=(List.getElem?_eq_some_iff.1 hi).1;rw[List.getElem?_set_self hlt]at hj
   cases hj
   refine⟨hh,λb2 h2=>?_⟩;rw[hb']at h2;cases h2;exact⟨hge,hnone⟩
  ·rw[List.getElem?_set_ne (λe=>hji e.symm)]at hj;obtain⟨h1,h2⟩:=h.loc x (mG hj);exact⟨Z0w h1 (Zph h.nd hi hb j x hj hji),h2⟩
 ·rw[ZJn hi (hb'.trans hb.symm)];exact h.nd
theorem ZXy {α:Type} (l cs:List α) (n off:Nat) (h:off+cs.length≤n) (hn:n≤l.length) :
  (l.take off++cs++l.drop (off+cs.length)).take n=(l.take n).take off++cs++(l.take n).drop (off+cs.length):=by
 have h1:(l.take off++cs).length=off+cs.length:=by simp;omega
 rw[List.take_append,List.take_of_length_le (by omega),List.take_take,Nat.min_eq_left (by omega),List.drop_take,h1]
theorem Ztw (x:Value):plain x=x.oneCell':=by cases x <;> rfl
theorem Zyt {cs:List Value} (h:cs.all plain=true):∀ x ∈ cs,x.oneCell'=true:=λx hx=>by
 rw[← Ztw];exact List.all_eq_true.1 h x hx
def cellsOf (z:Value) (cs:List Value):Prop:=z.cells=cs.toArray
theorem ZVl (cs:List Value):cellsOf (.agg cs.toArray) cs:=rfl
theorem Zmd {z:Value} (h:plain z=true):cellsOf z [z]:=by cases z <;> first | rfl | cases h
variable {d:Option Nat} {ty:TypeId} {pos:String} {aft:Array Edge} {g:Option (Nat×Bool)}
theorem ZHp {t T:TypeId} {b off:Nat} {agg:Bool} {z:Value} {cs:List Value} {cur:Array Value} (ht:Sized P t cs.length agg) (hz:cellsOf z cs) (hg:w.heap[b]? = some (.cells cur T (0,0)))
  (hfit:off+cs.length≤cur.size) (hp:cs.all plain=true):(Instr.storeAt t (.pointer (some ⟨b,off,none⟩)) z).run P w = .ok () (w.setRow b (cur.toList.take off++cs++cur.toList.drop (off+cs.length)).toArray):=by
 have:=run_storeCells_at P b off T cs 0 cur w hg (by simpa using hfit) (Zyt hp);simp only[Nat.add_zero]at this;have hz':z.cells=cs.toArray:=hz;simp[Instr.storeAt,Instr.sureAddr,storeVar,hz',ht.size,this]
theorem Zet (hS:St K w0 v0 σ ℓ v a w) {t:TypeId} {x y:Operand} {p z:Value} {w':World} (e:ev σ x=some p) (ey:ev σ y=some z) (h:(Instr.storeAt t p z).run P w = .ok () w') :
  (execOp a.eval ⟨d,.store t x y,ty,pos,aft,g⟩).run P w = .ok .skip w':=by
 simp[execOp,hS.eval e,hS.eval ey,h]
theorem Z8h (hS:St K w0 v0 σ ℓ v a w) {t T:TypeId} {n b off i:Nat} {agg:Bool} {z:Value} {cs cs0:List Value} (ht:Sized P t n agg)
  (hz:cellsOf z cs) (hn:cs.length=n) (hi:ℓ[i]? = some (.box b T cs0)) (hfit:off+n≤cs0.length) (hp:cs.all plain=true) :
  ∃ w',(∀ {d:Option Nat} {ty:TypeId} {pos:String} {aft:Array Edge} {g:Option (Nat×Bool)} {x y:Operand},ev σ x=some (.pointer (some ⟨b,off,none⟩))→ev σ y=some z→(execOp a.eval ⟨d,.store t x y,ty,pos,aft,g⟩).run P w = .ok .skip w')∧St K w0 v0 σ (ℓ.set i (.box b T (cs0.take off++cs++cs0.drop (off+cs.length)))) v a w':=by
 subst hn;have hg:w.heap[b]? = some (.cells cs0.toArray T (0,0)):=(hS.loc _ (mG hi)).1;have hr:=ZHp (P:=P) ht hz hg (by simpa using hfit) hp;refine⟨_,λe ey=>Zet hS e ey hr,hS.setRow hi rfl rfl ?_⟩;show _=_;exact setRow_heap w b _ _ T _ hg
theorem Zfd (hS:St K w0 v0 σ ℓ v a w) {t T:TypeId} {n m cap sz b off i:Nat} {agg:Bool} {z:Value} {cs cs0:List Value} (ht:Sized P t n agg)
  (hz:cellsOf z cs) (hn:cs.length=n) (hi:ℓ[i]? = some (.own (some b) T sz m cap cs0)) (hfit:off+n≤cs0.length) (hp:cs.all plain=true) :
  ∃ w',(∀ {d:Option Nat} {ty:TypeId} {pos:String} {aft:Array Edge} {g:Option (Nat×Bool)} {x y:Operand},ev σ x=some (.pointer (some ⟨b,off,none⟩))→ev σ y=some z→(execOp a.eval ⟨d,.store t x y,ty,pos,aft,g⟩).run P w = .ok .skip w')∧St K w0 v0 σ (ℓ.set i (.own (some b) T sz m cap (cs0.take off++cs++cs0.drop (off+cs.length)))) v a w':=by
 subst hn;obtain⟨hl,cur,hg,hm,hc,hs,htk⟩:=(hS.loc _ (mG hi)).1;have hle:m*sz≤cur.size:=by rw[hs];exact mR _ hm
 have hfit':off+cs.length≤cur.size:=by omega
 have hr:=ZHp (P:=P) (cs:=cs) ht hz hg hfit' hp;refine⟨_,λe ey=>Zet hS e ey hr,hS.setRow hi rfl rfl ⟨?_,_,setRow_heap w b cur _ T _ hg,hm,hc,?_,?_⟩⟩
 ·simp;omega
 ·simp;omega
 ·rw[← htk];exact ZXy _ _ _ _ (by omega) (by simpa using hle)
def ZF (P:Program) (f:FuncId):Prop:=∀ args w,(callFunc f args).run P w = .ok (.enter f args) w
theorem Z0r (hS:St K w0 v0 σ ℓ v a w) {x:Operand} {f:FuncId} {cap:Array Value} {xs:Array Operand} {ats:Array TypeId} {vals:List Value} (hf:ZF P f) (e:ev σ x=some (.func (.func f) #[] cap))
  (h:xs.toList.map (ev σ)=vals.map some):(execOp a.eval ⟨d,.call ⟨.value x,xs,ats⟩,ty,pos,aft,g⟩).run P w = .ok (.enter f (vals.toArray++cap)) w:=by
 have hx:xs.map a.eval=vals.toArray:=by
  apply Array.ext';rw[Array.toList_map];generalize xs.toList=l at h
  induction l generalizing vals with
  | nil=>cases vals <;> simp_all
  | cons y l ih =>
   cases vals with
   | nil=>simp at h
   | cons u vals=>simp at h;simp[hS.eval h.1,ih h.2]
 simp[execOp,resolve,Deferred.ofValue,invoke,hS.eval e,hx,hf _ w]
theorem ZRa {o:Oper} {y:Nat→Option Bool} (h:o.guard=none):Region.wanted o y=true:=by simp[Region.wanted,h]
theorem ZQe {o:Oper} (hS:St K w0 v0 σ ℓ v a w) {gi t:Nat} {want:Bool} (hg:o.guard=some (gi,want)) (hgd:(ops[gi]?).bind (·.dst)=some t) (ht:look σ t=some (.bool want)) (hK:t<K):Region.wanted o (yielded ops a.tmps)=true:=by
 have h1:=hS.fr t _ ht;have h2:t<a.tmps.size:=by rw[hS.size];exact hK
 simp[h2]at h1;simp[Region.wanted,hg,yielded,hgd,h2,h1]
theorem Zhi {o:Oper} (hS:St K w0 v0 σ ℓ v a w) {gi t:Nat} {want:Bool} (hg:o.guard=some (gi,want)) (hgd:(ops[gi]?).bind (·.dst)=some t) (ht:look σ t=some (.bool !want)) (hK:t<K):Region.wanted o (yielded ops a.tmps)=false:=by
 have h1:=hS.fr t _ ht;have h2:t<a.tmps.size:=by rw[hS.size];exact hK
 simp[h2]at h1;simp[Region.wanted,hg,yielded,hgd,h2,h1]
theorem ZVd {o:Oper} (hS:St K w0 v0 σ ℓ v a w) {gi t:Nat} {want:Bool} (hg:o.guard=some (gi,want)) (hgd:(ops[gi]?).bind (·.dst)=some t) (ht:look σ t=some undef) (hK:t<K):Region.wanted o (yielded ops a.tmps)=false:=by
 have h1:=hS.fr t _ ht;have h2:t<a.tmps.size:=by rw[hS.size];exact hK
 simp[h2]at h1;simp[Region.wanted,hg,yielded,hgd,h2,h1,undef]
theorem ZSu {o:Oper} (hw:Region.wanted o (yielded ops a.tmps)=true) (h:∀ N:Act→World→Prop,(∀ a w,wpList P ops Q rest a w→N a w)→o.wp P a w N Q):wpList P ops Q (o :: rest) a w :=
 wpList_step λ_ hN=>by rw[iP hw];exact h _ hN
theorem ZQc {o:Oper} (hw:Region.wanted o (yielded ops a.tmps)=true) (h:Zpb P o a w λx w'=>wpList P ops Q rest (a.put o.dst x) w'):wpList P ops Q (o :: rest) a w :=
 ZSu hw λ_ hN=>ZVi rfl h λ_ _ hx=>hN _ _ hx
theorem op_v {o:Oper} {d:Nat} {x:Value} (hS:St K w0 v0 σ ℓ v a w) (hw:Region.wanted o (yielded ops a.tmps)=true) (hd:o.dst=some d) (hK:d<K) (hrun:(execOp a.eval o).run P w = .ok (.value x) w)
  (h:∀ a,St K w0 v0 ((d,x) :: σ) ℓ v a w→wpList P ops Q rest a w):wpList P ops Q (o :: rest) a w :=
 ZQc hw (ZYe hrun (by rw[hd];exact h _ (hS.put x hK)))
theorem Z3e {o:Oper} {d:Nat} (hS:St K w0 v0 σ ℓ v a w) (hw:Region.wanted o (yielded ops a.tmps)=false) (hd:o.dst=some d) (hK:d<K)
  (h:∀ a,St K w0 v0 ((d,undef) :: σ) ℓ v a w→wpList P ops Q rest a w):wpList P ops Q (o :: rest) a w :=
 wpList_step λ_ hN=>by rw[iN (by rw[hw];simp),hd];exact hN _ _ (h _ (hS.put undef hK))
theorem ZTf {o:Oper} {w':World} (hw:Region.wanted o (yielded ops a.tmps)=true) (hd:o.dst=none) (hrun:(execOp a.eval o).run P w = .ok .skip w')
  (h:wpList P ops Q rest a w'):wpList P ops Q (o :: rest) a w :=
 ZQc hw (Zjm hrun (by rw[hd];exact h))
theorem Z0h {o:Oper} {d:Nat} {T:TypeId} {cs:List Value} (hS:St K w0 v0 σ ℓ v a w) (hw:Region.wanted o (yielded ops a.tmps)=true) (hd:o.dst=some d) (hK:d<K)
  (hrun:(execOp a.eval o).run P w = .ok (.value (.pointer (some ⟨w.heap.size,0,none⟩))) (w.alloc (.cells cs.toArray T)))
  (h:∀ b a w,St K w0 v0 ((d,.pointer (some ⟨b,0,none⟩)) :: σ) (.box b T cs :: ℓ) v a w→wpList P ops Q rest a w):wpList P ops Q (o :: rest) a w :=
 ZQc hw (ZYe hrun (by
  rw[hd]
  exact h w.heap.size _ _ ((hS.newLoc (.cells cs.toArray T) (e:=.box w.heap.size T cs) rfl (heap_alloc_new w _)).put _ hK)))
theorem ZHk {o:Oper} {d:Nat} {f:FuncId} {args:Array Value} {R:Value→Zb→Prop} (hS:St K w0 v0 σ ℓ v a w) (hw:Region.wanted o (yielded ops a.tmps)=true) (hd:o.dst=some d) (hK:d<K)
  (hrun:(execOp a.eval o).run P w = .ok (.enter f args) w) (hc:Ret P f args w v R)
  (h:∀ x v' a w,v.le v'→R x v'→St K w0 v0 ((d,x) :: σ) ℓ v' a w→wpList P ops Q rest a w):wpList P ops Q (o :: rest) a w :=
 ZQc hw (ZXc hrun (Calls.mono hc λe w' ⟨r,v',e1,e2,e3,e4⟩=>⟨r,e1,by
  rw[hd]
  exact h r v' _ _ e3.le e4 ((hS.step e2 e3).put r hK)⟩))
theorem Zx (h:Q .normal a w):wpList P ops Q [] a w:=h
theorem next_of {fl E E':Array Bool} {p:Nat} {o:Oper} (A J:List Nat) (hi:ops[p]? = some o) (hA:Zld ops p [] A=true) (hAJ:((List.range ops.size).all λj=>!(E.getD j false&&fl.getD j false) || A.contains j || J.contains j)=true)
  (hE:E'=E.setIfInBounds p true) (hw:Region.wanted o (yielded ops a.tmps)=true) (h:Zpb P o a w λx w'=>(∀ j ∈ J,∀ oj,ops[j]? = some oj→ZWc P ops oj (a.put o.dst x) w')∧Rg P ops Q fl E' (a.put o.dst x) w'):Next P ops Q fl E a w p :=
 ⟨o,A,J,hi,hA,hAJ,by rw[iP hw,← hE];exact h⟩
theorem Zke {id:Nat} (h:Q .normal a w):Exit.inBlock id Q (.exit id) a w:=by simp only[Exit.inBlock,iP];exact h
theorem ZWs {id k:Nat} (hne:(k==id)=false) (h:Q (.exit k) a w):Exit.inBlock id Q (.exit k) a w:=by
 have:¬ k=id:=by simpa using hne
 simp only[Exit.inBlock,iN this];exact h
theorem least {p:Nat→Prop} (n:Nat) (h:p n):∃ m,p m∧∀ k,p k→m≤k:=by
 induction n using Nat.strongRecOn with
 | _ n ih =>
  by_cases hx:∃ m,m<n∧p m
  ·obtain⟨m,h1,h2⟩:=hx;exact ih m h1 h2
  ·exact⟨n,h,λk hk=>Nat.le_of_not_lt λhlt=>hx ⟨k,hlt,hk⟩⟩
open Classical in
theorem wp_loop_fuel {c:Code} (I:Nat→Act→World→Prop) (n:Nat) (h0:I n a w) (hz:∀ a w,¬ I 0 a w)
  (round:∀ n a w,I (n+1) a w→∀ N:Act→World→Prop,(∀ a w,I n a w→N a w)→c.wp P (Exit.then N Q) a w):(Code.loop c).wp P Q a w:=by
 let μ:Act→World→Nat:=λa w=>if h:∃ m,I m a w∧∀ k,I k a w→m≤k then h.choose else 0
 have hμ:∀ a w k,I k a w→I (μ a w) a w∧μ a w≤k:=by
  intro a w k hk;have hex:=least (p:=λk=>I k a w) k hk;have:μ a w=hex.choose:=dif_pos hex;rw[this];exact⟨hex.choose_spec.1,hex.choose_spec.2 k hk⟩
 refine wp_loop (λa w=>∃ k,I k a w) μ ⟨n,h0⟩ λa w ⟨k,hk⟩=>?_;obtain⟨h1,_⟩:=hμ a w k hk
 cases hm:μ a w with
 | zero=>rw[hm]at h1;exact absurd h1 (hz a w)
 | succ m =>
  rw[hm]at h1;exact round m a w h1 _ λa' w' h'=>⟨⟨m,h'⟩,by have:=(hμ a' w' m h').2;omega⟩
end
end Go.Eng
namespace Go.Eng
open Go.RowKit
def bnd {α β:Type} (x:Option α) (f:α→Option β):Option β:=match x with
 | some y=>f y
 | none=>none
theorem ZG {α β:Type} {x:Option α} {f:α→Option β} {r:β} (h:bnd x f=some r):∃ y,x=some y∧f y=some r:=by
 cases x with
 | none=>cases h
 | some y=>exact⟨y,rfl,h⟩
def ifb {α:Type} (b:Bool) (x y:Option α):Option α:=match b with
 | true=>x
 | false=>y
theorem Z9 {α:Type} {b:Bool} {x y:Option α} {r:α} (h:ifb b x y=some r) (e:b=true):x=some r:=by subst e;exact h
theorem Zaa {α:Type} {b:Bool} {x y:Option α} {r:α} (h:ifb b x y=some r) (e:b=false):y=some r:=by subst e;exact h
open Classical in
noncomputable def grd {α:Type} (p:Prop) (x:Option α):Option α:=if p then x else none
def Zi {σ ρ:Type} (body:σ→Option (σ ⊕ ρ)):Nat→σ→Option ρ
 | 0,_=>none
 | n+1,s=>bnd (body s) fun
  | .inl s'=>Zi body n s'
  | .inr r=>some r
theorem Zqw {σ ρ:Type} {body:σ→Option (σ ⊕ ρ)} {s:σ} {r:ρ}:¬ Zi body 0 s=some r:=λh=>by cases h
theorem ZYv {σ ρ:Type} {body:σ→Option (σ ⊕ ρ)} {n:Nat} {s:σ} {r:ρ} (h:Zi body (n+1) s=some r) :
  ∃ x,body s=some x∧((∃ s',x = .inl s'∧Zi body n s'=some r)∨x = .inr r):=by
 obtain⟨x,h1,h2⟩:=ZG h;refine⟨x,h1,?_⟩
 cases x with
 | inl s'=>exact .inl ⟨s',rfl,h2⟩
 | inr r'=>exact .inr (by cases h2;rfl)
def Zm:Nat:=2^70
def inR (k:IntKind) (x:Int):Prop:=k.min≤x∧x≤k.max
instance (k:IntKind) (x:Int):Decidable (inR k x):=inferInstanceAs (Decidable (_∧_))
theorem Zva {x:Int}:inR .i64 x ↔ -9223372036854775808≤x∧x≤9223372036854775807:=Iff.rfl
theorem Zqe {x:Int}:inR .u64 x↔0≤x∧x≤18446744073709551615:=Iff.rfl
theorem Z0p {x:Int}:inR .u32 x↔0≤x∧x≤4294967295:=Iff.rfl
theorem Zhl {x:Int}:inR .u8 x↔0≤x∧x≤255:=Iff.rfl
theorem ZRs {x:Int}:inR .i32 x ↔ -2147483648≤x∧x≤2147483647:=Iff.rfl
theorem Zub (k:IntKind) (x:Int):inR k (k.wrap x):=by
 cases k
 ·simp only[inR,IntKind.wrap,IntKind.min,IntKind.max,IntKind.signed,IntKind.bits];simp;first | omega | (split <;> omega)
 ·simp only[inR,IntKind.wrap,IntKind.min,IntKind.max,IntKind.signed,IntKind.bits];simp;first | omega | (split <;> omega)
 ·rw[ZRs,IntKind.wrap_i32];omega
 ·rw[Zva,IntKind.wrap_i64];omega
 ·rw[Zhl,IntKind.wrap_u8];omega
 ·simp only[inR,IntKind.wrap,IntKind.min,IntKind.max,IntKind.signed,IntKind.bits];simp;first | omega | (split <;> omega)
 ·rw[Z0p,IntKind.wrap_u32];omega
 ·rw[Zqe,IntKind.wrap_u64];omega
theorem Zze {k:IntKind} {x:Int} (h:inR k x):k.wrap x=x:=by
 cases k
 ·simp only[inR,IntKind.wrap,IntKind.min,IntKind.max,IntKind.signed,IntKind.bits] at *;simp at *;first | omega | (split <;> omega)
 ·simp only[inR,IntKind.wrap,IntKind.min,IntKind.max,IntKind.signed,IntKind.bits] at *;simp at *;first | omega | (split <;> omega)
 ·rw[ZRs]at h;rw[IntKind.wrap_i32];omega
 ·rw[Zva]at h;rw[IntKind.wrap_i64];omega
 ·rw[Zhl]at h;rw[IntKind.wrap_u8];omega
 ·simp only[inR,IntKind.wrap,IntKind.min,IntKind.max,IntKind.signed,IntKind.bits] at *;simp at *;first | omega | (split <;> omega)
 ·rw[Z0p]at h;rw[IntKind.wrap_u32];omega
 ·rw[Zqe]at h;rw[IntKind.wrap_u64];omega
def chk (k:IntKind) (x:Int):Option Int:=if inR k x then some x else none
theorem Zcb {k:IntKind} {x z:Int} (h:chk k x=some z):z=x∧inR k z:=by
 unfold chk at h;split at h
 ·cases h;exact⟨rfl,‹_›⟩
 ·cases h
theorem ZXk {k:IntKind} {x:Int} (h:inR k x):chk k x=some x:=iP h
section
variable {P:Program} {K:Nat} {w0:Base} {v0:Zb} {σ:List (Nat×Value)} {ℓ:List Loc} {v:Zb} {a:Act} {w:World}
variable {d:Option Nat} {ty:TypeId} {pos:String} {aft:Array Edge} {g:Option (Nat×Bool)}
theorem Zw (hS:St K w0 v0 σ ℓ v a w) {op:BinOp} {t t':TypeId} {x y:Operand} {k k':IntKind} {p q:Int} {z:Value} (e:ev σ x=some (.int k p)) (e':ev σ y=some (.int k' q))
  (h:∀ w,(binOp op t (.int k p) (.int k' q)).run P w = .ok z w):(execOp a.eval ⟨d,.binOp op t x y t',ty,pos,aft,g⟩).run P w = .ok (.value z) w:=by
 cases op <;> simp[execOp,hS.eval e,hS.eval e',eqGuard,h]
theorem ZYc {t:TypeId} {k:IntKind} {p q z:Int} (h:chk k (p+q)=some z) (w:World):(binOp .add t (.int k p) (.int k q)).run P w = .ok (.int k z) w:=by
 obtain⟨rfl,h⟩:=Zcb h;simp[binOp,Op.intArith,Zze h]
theorem Ztb {t:TypeId} {k:IntKind} {p q z:Int} (h:chk k (p-q)=some z) (w:World):(binOp .sub t (.int k p) (.int k q)).run P w = .ok (.int k z) w:=by
 obtain⟨rfl,h⟩:=Zcb h;simp[binOp,Op.intArith,Zze h]
theorem bin_mul {t:TypeId} {k:IntKind} {p q z:Int} (h:chk k (p*q)=some z) (w:World):(binOp .mul t (.int k p) (.int k q)).run P w = .ok (.int k z) w:=by
 obtain⟨rfl,h⟩:=Zcb h;simp[binOp,Op.intArith,Zze h]
theorem Z2k {t:TypeId} {k:IntKind} {p q:Int} (w:World):(binOp .add t (.int k p) (.int k q)).run P w = .ok (.int k (k.wrap (p+q))) w:=by simp[binOp,Op.intArith]
theorem ZIl {t:TypeId} {k:IntKind} {p q:Int} (w:World):(binOp .sub t (.int k p) (.int k q)).run P w = .ok (.int k (k.wrap (p-q))) w:=by simp[binOp,Op.intArith]
theorem Zxy {t:TypeId} {k:IntKind} {p q:Int} (w:World):(binOp .mul t (.int k p) (.int k q)).run P w = .ok (.int k (k.wrap (p*q))) w:=by simp[binOp,Op.intArith]
def quo (k:IntKind) (p q:Int):Option Int:=if q=0 then none else chk k (p.tdiv q)
def rem (_k:IntKind) (p q:Int):Option Int:=if q=0 then none else some (p.tmod q)
theorem ZTo {t:TypeId} {k:IntKind} {p q z:Int} (h:quo k p q=some z) (w:World):(binOp .quo t (.int k p) (.int k q)).run P w = .ok (.int k z) w:=by
 unfold quo at h;split at h
 ·cases h
 ·rename_i hq;obtain⟨rfl,h⟩:=Zcb h;simp[binOp,Op.intDiv,hq,Zze h]
theorem Z9r {t:TypeId} {k:IntKind} {p q z:Int} (h:rem k p q=some z) (w:World):(binOp .rem t (.int k p) (.int k q)).run P w = .ok (.int k z) w:=by
 unfold rem at h;split at h
 ·cases h
 ·rename_i hq
  cases h
  simp[binOp,Op.intDiv,hq]
theorem Zjq {k:IntKind} {p q z:Int} (h:quo k p q=some z):inR k z:=by
 unfold quo at h;split at h
 ·cases h
 ·exact (Zcb h).2
theorem rem_inR {k:IntKind} {p q z:Int} (hp:inR k p) (h:rem k p q=some z):inR k z:=by
 unfold rem at h;split at h
 ·cases h
 ·rename_i hq
  cases h
  have h1:(p.tmod q).natAbs≤p.natAbs:=by rw[Int.natAbs_tmod];exact Nat.mod_le _ _
  have h2:0≤p→0≤p.tmod q:=λh=>Int.tmod_nonneg _ h;have h3:p≤0→p.tmod q≤0:=λh=>by
   have:=Int.tmod_nonneg (a:=-p) q (by omega);rw[Int.neg_tmod]at this;omega
  have h0:k.min≤0∧0≤k.max:=by cases k <;> decide
  unfold inR at *;omega
theorem ZRd {t:TypeId} {k:IntKind} {p q:Int} (w:World):(binOp .lss t (.int k p) (.int k q)).run P w = .ok (.bool (decide (p<q))) w:=by simp[binOp,Op.intCmp]
theorem Zip {t:TypeId} {k:IntKind} {p q:Int} (w:World):(binOp .leq t (.int k p) (.int k q)).run P w = .ok (.bool (decide (p≤q))) w:=by simp[binOp,Op.intCmp]
theorem ZSg {t:TypeId} {k:IntKind} {p q:Int} (w:World):(binOp .gtr t (.int k p) (.int k q)).run P w = .ok (.bool (decide (q<p))) w:=by simp[binOp,Op.intCmp]
theorem Zci {t:TypeId} {k:IntKind} {p q:Int} (w:World):(binOp .geq t (.int k p) (.int k q)).run P w = .ok (.bool (decide (q≤p))) w:=by simp[binOp,Op.intCmp]
theorem Z8g {t:TypeId} {k:IntKind} {p q:Int} (w:World):(binOp .eql t (.int k p) (.int k q)).run P w = .ok (.bool (p==q)) w:=by simp[binOp,Op.intCmp]
theorem bin_neq {t:TypeId} {k:IntKind} {p q:Int} (w:World):(binOp .neq t (.int k p) (.int k q)).run P w = .ok (.bool (p != q)) w:=by simp[binOp,Op.intCmp]
def ZQa (k:IntKind) (p q:Int):Option Int:=if q<0 then none else some (k.wrap (p*2^(min q.toNat k.bits)))
def ZW (k:IntKind) (p q:Int):Option Int:=if q<0 then none else some (p.fdiv (2^(min q.toNat k.bits)))
theorem Zsp {t:TypeId} {k k':IntKind} {p q z:Int} (h:ZQa k p q=some z) (w:World):(binOp .shl t (.int k p) (.int k' q)).run P w = .ok (.int k z) w:=by
 unfold ZQa at h;split at h
 ·cases h
 ·rename_i hq;cases h;simp[binOp,Op.shift,hq]
theorem Z3m {t:TypeId} {k k':IntKind} {p q z:Int} (h:ZW k p q=some z) (w:World):(binOp .shr t (.int k p) (.int k' q)).run P w = .ok (.int k z) w:=by
 unfold ZW at h;split at h
 ·cases h
 ·rename_i hq;cases h;simp[binOp,Op.shift,hq]
def ZEa (k:IntKind) (p q:Int):Int:=k.wrap (BitVec.ofInt k.bits p &&& BitVec.ofInt k.bits q).toNat
def orI (k:IntKind) (p q:Int):Int:=k.wrap (BitVec.ofInt k.bits p ||| BitVec.ofInt k.bits q).toNat
theorem Z9j {t:TypeId} {k:IntKind} {p q:Int} (w:World):(binOp .and t (.int k p) (.int k q)).run P w = .ok (.int k (ZEa k p q)) w:=by simp[binOp,Op.intBits,ZEa]
theorem Zuj {t:TypeId} {k:IntKind} {p q:Int} (w:World):(binOp .or t (.int k p) (.int k q)).run P w = .ok (.int k (orI k p q)) w:=by simp[binOp,Op.intBits,orI]
end
structure Rep (α:Type) where
 n:Nat
 agg:Bool
 rel:Zb→List Value→α→Prop
 len:∀ {v cs x},rel v cs x→cs.length=n
 mono:∀ {v v' cs x},v.le v'→rel v cs x→rel v' cs x
 flat:∀ {v cs x},rel v cs x→cs.all plain=true
def Rep.val {α:Type} (A:Rep α) (cs:List Value):Value:=match A.agg with
 | true=>.agg cs.toArray
 | false=>cs.headD undef
def Zd (k:IntKind):Rep Int where
 n:=1
 agg:=false
 rel _ cs x:=cs=[.int k x]∧inR k x
 len h:=by rw[h.1];rfl
 mono _ h:=h
 flat h:=by rw[h.1];rfl
def Znb:Rep Bool where
 n:=1
 agg:=false
 rel _ cs x:=cs=[.bool x]
 len h:=by rw[h];rfl
 mono _ h:=h
 flat h:=by rw[h];rfl
def Zg (l:List UInt8):ByteArray:=⟨l.toArray⟩
def ZE:Rep (List UInt8) where
 n:=1
 agg:=false
 rel _ cs x:=cs=[.string (Zg x)]∧x.length≤maxLen
 len h:=by rw[h.1];rfl
 mono _ h:=h
 flat h:=by rw[h.1];rfl
def ZD {α β:Type} (A:Rep α) (B:Rep β):Rep (α×β) where
 n:=A.n+B.n
 agg:=true
 rel v cs x:=∃ c1 c2,cs=c1++c2∧A.rel v c1 x.1∧B.rel v c2 x.2
 len h:=by obtain⟨c1,c2,rfl,h1,h2⟩:=h;simp[A.len h1,B.len h2]
 mono hv h:=by obtain⟨c1,c2,rfl,h1,h2⟩:=h;exact⟨c1,c2,rfl,A.mono hv h1,B.mono hv h2⟩
 flat h:=by obtain⟨c1,c2,rfl,h1,h2⟩:=h;rw[List.all_append,A.flat h1,B.flat h2];rfl
def Rep.via {α β:Type} (A:Rep β) (f:α→β):Rep α where
 n:=A.n
 agg:=A.agg
 rel v cs x:=A.rel v cs (f x)
 len h:=A.len h
 mono hv h:=A.mono hv h
 flat h:=A.flat h
def rOne {α:Type} (A:Rep α):Rep α where
 n:=A.n
 agg:=true
 rel v cs x:=A.rel v cs x
 len h:=A.len h
 mono hv h:=A.mono hv h
 flat h:=A.flat h
def Rep.rels {α:Type} (A:Rep α) (v:Zb):List Value→List α→Prop
 | cs,[]=>cs=[]
 | cs,x :: l=>∃ c1 c2,cs=c1++c2∧A.rel v c1 x∧A.rels v c2 l
section
variable {α:Type} {A:Rep α} {v v':Zb}
theorem Z6a:∀ {l:List α} {cs:List Value},A.rels v cs l→cs.length=l.length*A.n
 | [],cs,h=>by rw[show cs=[] from h];simp
 | x :: l,cs,h=>by obtain⟨c1,c2,rfl,h1,h2⟩:=h;simp[A.len h1,Z6a h2,Nat.succ_mul,Nat.add_comm]
theorem ZR (hv:v.le v'):∀ {l:List α} {cs:List Value},A.rels v cs l→A.rels v' cs l
 | [],cs,h=>h
 | x :: l,cs,h=>by obtain⟨c1,c2,rfl,h1,h2⟩:=h;exact⟨c1,c2,rfl,A.mono hv h1,ZR hv h2⟩
theorem Zfj:∀ {l:List α} {cs:List Value},A.rels v cs l→cs.all plain=true
 | [],cs,h=>by rw[show cs=[] from h];rfl
 | x :: l,cs,h=>by obtain⟨c1,c2,rfl,h1,h2⟩:=h;rw[List.all_append,A.flat h1,Zfj h2];rfl
theorem Zuc:∀ {l l':List α} {cs cs':List Value},A.rels v cs l→A.rels v cs' l'→A.rels v (cs++cs') (l++l')
 | [],l',cs,cs',h,h'=>by rw[show cs=[] from h];exact h'
 | x :: l,l',cs,cs',h,h'=>by obtain⟨c1,c2,rfl,h1,h2⟩:=h;exact⟨c1,c2++cs',by simp,h1,Zuc h2 h'⟩
theorem Zmh {c:List Value} {x:α} (h:A.rel v c x):A.rels v c [x]:=⟨c,[],by simp,h,rfl⟩
theorem Z1m {l:List α} {cs c:List Value} {x:α} (h:A.rels v cs l) (k:A.rel v c x):A.rels v (cs++c) (l++[x]):=Zuc h (Zmh k)
theorem Z5f:∀ {l:List α} {cs:List Value} (k:Nat),A.rels v cs l→A.rels v (cs.drop (k*A.n)) (l.drop k)
 | l,cs,0,h=>by simpa using h
 | [],cs,k+1,h=>by rw[show cs=[] from h];simp;rfl
 | x :: l,cs,k+1,h=>by
  obtain⟨c1,c2,rfl,h1,h2⟩:=h
  have:=Z5f k h2
  have e:(k+1)*A.n=c1.length+k*A.n:=by rw[A.len h1,Nat.succ_mul,Nat.add_comm]
  rw[e,List.drop_append,List.drop_of_length_le (by omega)]
  simpa using this
theorem Zeh:∀ {l:List α} {cs:List Value} (k:Nat),A.rels v cs l→A.rels v (cs.take (k*A.n)) (l.take k)
 | l,cs,0,h=>by simp;rfl
 | [],cs,k+1,h=>by rw[show cs=[] from h];simp;rfl
 | x :: l,cs,k+1,h=>by
  obtain⟨c1,c2,rfl,h1,h2⟩:=h
  have:=Zeh k h2
  have e:(k+1)*A.n=c1.length+k*A.n:=by rw[A.len h1,Nat.succ_mul,Nat.add_comm]
  refine⟨c1,c2.take (k*A.n),?_,h1,this⟩
  rw[e,List.take_append,List.take_of_length_le (by omega)]
  simp
theorem ZHa {l:List α} {cs:List Value} {i:Nat} {x:α} (h:A.rels v cs l) (hi:l[i]? = some x):A.rel v ((cs.drop (i*A.n)).take A.n) x:=by
 have h1:=Z5f i h;have hl:i<l.length:=(List.getElem?_eq_some_iff.1 hi).1;have h2:l.drop i=x :: l.drop (i+1):=by rw[List.drop_eq_getElem_cons hl];congr 1;exact (List.getElem?_eq_some_iff.1 hi).2
 rw[h2]at h1;obtain⟨c1,c2,e,h3,_⟩:=h1;rw[e,List.take_append,List.take_of_length_le (by rw[A.len h3];exact Nat.le_refl _),A.len h3]
 simpa using h3
theorem Zjw {l:List α} {cs c:List Value} {i:Nat} {x:α} (h:A.rels v cs l) (hi:i<l.length) (hc:A.rel v c x):A.rels v (cs.take (i*A.n)++c++cs.drop (i*A.n+c.length)) (l.set i x):=by
 have h1:=Zeh i h;have h2:=Z5f (i+1) h;have e:(i+1)*A.n=i*A.n+c.length:=by rw[A.len hc,Nat.succ_mul]
 rw[e]at h2;have:=Zuc (Zuc h1 (Zmh hc)) h2;rw[List.set_eq_take_append_cons_drop,iP hi]
 simpa using this
theorem Zbh {c:List Value} {x:α} (h:A.rel v c x):∀ (n:Nat),A.rels v ((List.replicate n c).flatten) (List.replicate n x)
 | 0=>rfl
 | n+1=>⟨c,(List.replicate n c).flatten,by simp[List.replicate_succ],h,Zbh h n⟩
end
def Zs {α:Type} (A:Rep α):Rep (List α) where
 n:=1
 agg:=false
 rel v cs l:=∃ q cap,cs=[.slice q l.length cap]∧l.length≤cap∧cap≤maxLen ∧
  (l=[] ∨ ∃ b off c T fr,q=some ⟨b,off,none⟩∧v b=some (.cells c T fr)∧A.rels v ((c.toList.drop off).take (l.length*A.n)) l)
 len h:=by obtain⟨q,cap,rfl,_⟩:=h;rfl
 mono hv h:=by
  obtain⟨q,cap,rfl,h1,h2,h3⟩:=h;refine⟨q,cap,rfl,h1,h2,?_⟩;rcases h3 with h3 | ⟨b,off,c,T,fr,e,hb,hr⟩
  ·exact .inl h3
  ·exact .inr ⟨b,off,c,T,fr,e,hv _ _ hb,ZR hv hr⟩
 flat h:=by obtain⟨q,cap,rfl,_⟩:=h;rfl
theorem ZEf {α:Type} (A:Rep α) (v:Zb):(Zs A).rel v [.slice none 0 0] ([]:List α):=⟨none,0,rfl,Nat.le_refl _,Nat.zero_le _,.inl rfl⟩
theorem ZIb {α:Type} {A:Rep α} {v:Zb} {q:Option Addr} {n cap:Nat} {l:List α} {i:Nat} {x:α} (h:(Zs A).rel v [.slice q n cap] l) (hi:l[i]? = some x) :
  n=l.length∧∃ b off cs,q=some ⟨b,off,none⟩∧At v b (off+i*A.n) cs∧A.rel v cs x:=by
 obtain⟨q',cap',e,h1,h2,h3⟩:=h
 cases e
 refine⟨rfl,?_⟩;rcases h3 with rfl | ⟨b,off,c,T,fr,rfl,hb,hr⟩
 ·simp at hi
 ·have hg:=ZHa hr hi;have hlt:i<l.length:=(List.getElem?_eq_some_iff.1 hi).1;refine⟨b,off,_,rfl,⟨c,T,fr,hb,?_⟩,hg⟩;rw[A.len hg];have:i*A.n+A.n≤l.length*A.n:=by rw[← Nat.succ_mul];exact mR _ hlt
  rw[List.drop_take,List.take_take,List.drop_drop,Nat.min_eq_left (by omega)]
theorem ZFe {α:Type} {A:Rep α} {v:Zb} {cs:List Value} {l:List α} (h:(Zs A).rel v cs l):∃ q cap,cs=[.slice q l.length cap]∧l.length≤cap∧cap≤maxLen:=by
 obtain⟨q,cap,e,h1,h2,_⟩:=h;exact⟨q,cap,e,h1,h2⟩
end Go.Eng
namespace Go.Eng
open Go.RowKit
def mkA (b:Option Nat):Option Addr:=match b with
 | some b=>some ⟨b,0,none⟩
 | none=>none
structure Elem (P:Program) (t e:TypeId) (sz bytes:Nat) (z:Value):Prop where
 ty:P.underlying t=some (.slice e)
 info:(P.info? e).map (λi=>(i.zero,i.size,i.bytes))=some (some z,sz,bytes)
 cells:z.cells.size=sz
 pos:0<sz
section
variable {P:Program} {K:Nat} {w0:Base} {v0:Zb} {σ:List (Nat×Value)} {ℓ:List Loc} {v:Zb} {a:Act} {w:World}
variable {d:Option Nat} {ty:TypeId} {pos:String} {aft:Array Edge} {g:Option (Nat×Bool)}
theorem Z7m {b:Nat} {e':Loc} (he:e'.blk=some b):∀ {ℓ:List Loc} (i:Nat),(ℓ.filterMap Loc.blk).Nodup→(∀ x ∈ ℓ,x.blk≠some b)→((ℓ.set i e').filterMap Loc.blk).Nodup
 | [],_,h,_=>h
 | x :: l,0,h,hn=>by
  rw[List.set_cons_zero,List.filterMap_cons_some he]
  refine List.nodup_cons.2 ⟨λhm=>?_,?_⟩
  ·obtain⟨y,hy,hyb⟩:=List.mem_filterMap.1 hm
   exact hn y (List.mem_cons_of_mem _ hy) hyb
  ·cases hx:x.blk with
   | none=>rw[List.filterMap_cons_none hx]at h;exact h
   | some bx=>rw[List.filterMap_cons_some hx]at h;exact (List.nodup_cons.1 h).2
 | x :: l,i+1,h,hn=>by
  rw[List.set_cons_succ]
  cases hx:x.blk with
  | none =>
   rw[List.filterMap_cons_none hx]at h ⊢
   exact Z7m he i h λy hy=>hn y (List.mem_cons_of_mem _ hy)
  | some bx =>
   rw[List.filterMap_cons_some hx]at h ⊢
   refine List.nodup_cons.2 ⟨λhm=>?_,Z7m he i (List.nodup_cons.1 h).2 λy hy=>hn y (List.mem_cons_of_mem _ hy)⟩
   obtain⟨y,hy,hyb⟩:=List.mem_filterMap.1 hm
   rcases List.mem_or_eq_of_mem_set hy with hy | rfl
   ·exact (List.nodup_cons.1 h).1 (List.mem_filterMap.2 ⟨y,hy,hyb⟩)
   ·rw[he]at hyb;cases hyb
    exact hn x (List.mem_cons_self ..) hx
theorem St.setNew (h:St K w0 v0 σ ℓ v a w) (i:Nat) (o:Obj) {e:Loc} (hb:e.blk=some w.heap.size) (hh:e.holds (w.alloc o)):St K w0 v0 σ (ℓ.set i e) v a (w.alloc o):=by
 have h':=h.step (Ext.alloc w o) (VStep.ext h.vin (Ext.alloc w o));refine⟨h'.size,h'.dfr,h'.fr,h'.ext,h'.vst,λx hx=>?_,Z7m hb i h.nd λx hx e=>?_⟩
 ·rcases List.mem_or_eq_of_mem_set hx with hx | rfl
  ·exact h'.loc x hx
  ·refine⟨hh,λb e'=>?_⟩;rw[hb]at e';cases e';exact⟨.inl h.ext.size,h.vin.none (Nat.le_refl _)⟩
 ·obtain⟨_,hg⟩:=Loc.blk_get (h.loc x hx).1 e;have:=Z5b hg;omega
theorem St.setSame (h:St K w0 v0 σ ℓ v a w) {i:Nat} {e e':Loc} (hi:ℓ[i]? = some e) (hb:e'.blk=e.blk) (hh:e'.holds w):St K w0 v0 σ (ℓ.set i e') v a w:=by
 refine⟨h.size,h.dfr,h.fr,h.ext,h.vst,λx hx=>?_,by rw[ZJn hi hb];exact h.nd⟩;rcases List.mem_or_eq_of_mem_set hx with hx | rfl
 ·exact h.loc x hx
 ·exact⟨hh,λb e2=>(h.loc e (mG hi)).2 b (by rw[← hb];exact e2)⟩
theorem Z0j {t e ty:TypeId} {sz bytes:Nat} {z:Value} (E:Elem P t e sz bytes z) (hS:St K w0 v0 σ ℓ v a w) {i n cap:Nat} {b:Option Nat} {cs:List Value} (hi:ℓ[i]? = some (.own b e sz n cap cs))
  {ad:Addr} {m c:Nat} {news:List Value} (hl:news.length=m*sz) (hnews:∀ j u,news[j]? = some u→w.cell? (ad.add j)=some u) (hp:news.all plain=true)
  {n':Nat} (hn':n'=n+m) (hbytes:n'*bytes≤140737488355328) (hpos:0<bytes) :
  ∃ b' cap' w',(Builtin.append_ #[t,t] ty #[.slice (mkA b) n cap,.slice (some ad) m c]).run P w = .ok (.slice (mkA b') n' cap') w'∧St K w0 v0 σ (ℓ.set i (.own b' e sz n' cap' (cs++news))) v a w':=by
 subst hn';have h63:n+m≤maxLen:=by
  have h1:(n+m)*1≤(n+m)*bytes:=Nat.mul_le_mul_left _ hpos;unfold maxLen;omega
 obtain⟨inf,hinf,hz,hs,hby⟩:=info_parts E.info;subst hs;subst hby;have h1:=Zyt hp;have hcm:∀ (w:World) (old:Nat),grownCap w (n+m) old e≤maxLen:=λw old=>grownCap_le_maxLen w (n+m) old e h63;have h63':n+m≤9223372036854775807:=by simp only[maxLen]at h63;omega
 have hsize:∀ k,(Builtin.zeroCells z.cells k).size=k*inf.size:=λk=>by rw[size_zeroCells,E.cells]
 have hD:=hS.drew;have hloc:=(hS.loc _ (mG hi)).1;have fresh:∀ old,old<n+m→cs.length=n*inf.size →
   St K w0 v0 σ (ℓ.set i (.own (some w.heap.size) e inf.size (n+m) (grownCap w (n+m) old e) (cs++news))) v a (w.drew.alloc (.cells (cs.toArray++news.toArray++Builtin.zeroCells z.cells (grownCap w (n+m) old e-(n+m))) e)):=by
  intro old ho hcl;have hge:=grownCap_ge w (n+m) old e;have hlen:(cs++news).length=(n+m)*inf.size:=by rw[lA,hcl,hl,Nat.add_mul]
  refine hD.setNew i _ rfl ⟨hlen,_,heap_alloc_new w.drew _,hge,hcm w old,?_,?_⟩
  ·simp only[Array.size_append,List.size_toArray,hsize,hcl,hl,← Nat.add_mul];congr 1;omega
  ·simp only[Array.toList_append,aAq];rw[← aAq,← hlen];exact List.take_left
 cases b with
 | none =>
  obtain⟨rfl,rfl,rfl⟩:=hloc;by_cases hm:m=0
  ·subst hm;have hn:news=[]:=List.eq_nil_of_length_eq_zero (by simpa using hl);subst hn;refine⟨none,0,w,?_,hS.setSame hi rfl ⟨rfl,rfl,rfl⟩⟩;simp[Builtin.append_,run_underlying E.ty,sizeOf,typeInfo,hinf,Builtin.lenOf,Builtin.firstCells,loadCells,loadCellsFrom,mkA]
  ·have hr:=run_append_nil (P:=P) w t ty e inf z E.ty hinf hz ad m c news hl hnews (by omega) (by omega) (by have hb:=hbytes;simp only[Nat.zero_add]at hb;omega);have:=fresh 0 (by omega) (by simp);simp only[Nat.zero_add,List.nil_append]at this ⊢;exact⟨some w.heap.size,_,_,hr,by simpa using this⟩
 | some b =>
  obtain⟨hcl,cur,hg,hnc,hcx,hcs,htake⟩:=hloc;by_cases hroom:n+m≤cap
  ·have hfit:n*inf.size+news.length≤cur.size:=by rw[hl,hcs,← Nat.add_mul];exact mR _ hroom
   have hr:=run_append_room (P:=P) w t ty e inf E.ty hinf b n cap cur hg ad m c news hl hnews h1 hroom hfit;refine⟨some b,cap,_,hr,hS.setRow hi rfl rfl ⟨?_,_,setRow_heap w b cur _ e _ hg,hroom,hcx,?_,?_⟩⟩
   ·rw[lA,hcl,hl,Nat.add_mul]
   ·simp;omega
   ·have hlen:(cs++news).length=(n+m)*inf.size:=by rw[lA,hcl,hl,Nat.add_mul]
    show List.take _ (_++_++_)=_;rw[htake,← hlen];exact List.take_left
  ·have holds:∀ j u,cs[j]? = some u→w.cell? ((⟨b,0,none⟩:Addr).add j)=some u:=by
    intro j u hu;rw[ZLb,Nat.zero_add];rw[← htake,List.getElem?_take]at hu;split at hu
    ·simp only[World.cell?,hg,Option.isSome_none,Bool.false_eq_true,if_false];simpa using hu
    ·cases hu
   have hr:=run_append_grow (P:=P) w t ty e inf z E.ty hinf hz ⟨b,0,none⟩ n cap cs hcl holds ad m c news hl hnews (by omega) (by omega) (growslice_fits (by omega) hbytes);exact⟨some w.heap.size,_,_,hr,fresh cap (by omega) hcl⟩
theorem Zvd (hS:St K w0 v0 σ ℓ v a w) {t:TypeId} {x y:Operand} {p q r:Value} {w':World} (e:ev σ x=some p) (e':ev σ y=some q) (h:(Builtin.append_ #[t,t] ty #[p,q]).run P w = .ok r w') :
  (execOp a.eval ⟨d,.call ⟨.builtin .append,#[x,y],#[t,t]⟩,ty,pos,aft,g⟩).run P w = .ok (.value r) w':=by
 simp[execOp,resolve,invoke,builtin,hS.eval e,hS.eval e',h]
theorem Z0m (hS:St K w0 v0 σ ℓ v a w) {j n cap b sz:Nat} {T:TypeId} {cs:List Value} (hj:ℓ[j]? = some (.own (some b) T sz n cap cs)):∀ i u,cs[i]? = some u→w.cell? ((⟨b,0,none⟩:Addr).add i)=some u:=by
 intro i u hu;obtain⟨hcl,cur,hg,hnc,hcx,hcs,htake⟩:=(hS.loc _ (mG hj)).1;rw[ZLb,Nat.zero_add];rw[← htake,List.getElem?_take]at hu;split at hu
 ·simp only[World.cell?,hg,Option.isSome_none,Bool.false_eq_true,if_false];simpa using hu
 ·cases hu
theorem own_at (hS:St K w0 v0 σ ℓ v a w) {j n cap b sz:Nat} {T:TypeId} {cs:List Value} (hj:ℓ[j]? = some (.own (some b) T sz n cap cs)) (off k:Nat) (h:off+k≤cs.length):WAt w b off ((cs.drop off).take k):=by
 obtain⟨hcl,cur,hg,hnc,hcx,hcs,htake⟩:=(hS.loc _ (mG hj)).1;have hk:((cs.drop off).take k).length=k:=by simp;omega
 refine⟨cur,T,_,hg,?_⟩;rw[hk];have h2:off+k≤n*sz:=by omega
 rw[← htake,List.drop_take,List.take_take,Nat.min_eq_left (by omega)]
theorem Z5c (hS:St K w0 v0 σ ℓ v a w) {j n cap sz:Nat} {b:Option Nat} {T:TypeId} {cs:List Value} (hj:ℓ[j]? = some (.own b T sz n cap cs)) (h:0<n):∃ b',b=some b':=by
 cases b with
 | none=>obtain⟨h1,_⟩:=(hS.loc _ (mG hj)).1;omega
 | some b'=>exact⟨b',rfl⟩
theorem Zku (zc:Array Value) (n cap:Nat) (h:n≤cap):(madeCells zc (cap*zc.size)).toList.take (n*zc.size)=(List.replicate n zc.toList).flatten:=by
 have key:∀ m,((List.range (m*zc.size)).map λi=>zc[i%zc.size]!)=(List.replicate m zc.toList).flatten:=by
  intro m
  induction m with
  | zero=>simp
  | succ m ih =>
   rw[Nat.succ_mul,List.range_add,List.map_append,ih,List.replicate_succ',List.flatten_append];congr 1;simp only[List.map_map,List.flatten_cons,List.flatten_nil,List.append_nil];apply List.ext_getElem
   ·simp
   ·intro i h1 h2;have hi:i<zc.size:=by simpa using h1
    simp[Nat.mod_eq_of_lt hi,hi]
 have h1:(madeCells zc (cap*zc.size)).toList=(List.replicate cap zc.toList).flatten:=by
  unfold madeCells;rw[Array.toList_map,Array.toList_range];exact key cap
 rw[h1];obtain⟨k,rfl⟩:=Nat.le.dest h;rw[← List.replicate_append_replicate,List.flatten_append];have h2:((List.replicate n zc.toList).flatten).length=n*zc.size:=by simp
 rw[← h2];exact List.take_left
theorem Z5s {t e:TypeId} {sz bytes:Nat} {z:Value} (E:Elem P t e sz bytes z) (hS:St K w0 v0 σ ℓ v a w) {l c:Int}
  (h0:0≤l) (h1:l≤c) (h2:(bytes:Int)*c≤281474976710656) (h3:c≤9223372036854775807) :
  ∃ b w',(∀ {d:Option Nat} {ty:TypeId} {pos:String} {aft:Array Edge} {g:Option (Nat×Bool)} {x y:Operand} {k k':IntKind},ev σ x=some (.int k l)→ev σ y=some (.int k' c)→(execOp a.eval ⟨d,.makeSlice t x y,ty,pos,aft,g⟩).run P w = .ok (.value (.slice (mkA (some b)) l.toNat c.toNat)) w') ∧
   St K w0 v0 σ (.own (some b) e sz l.toNat c.toNat (List.replicate l.toNat z.cells.toList).flatten :: ℓ) v a w':=by
 obtain⟨inf,hinf,hz,hs,hby⟩:=info_parts E.info;subst hs;subst hby;have hx:∀ {d:Option Nat} {ty:TypeId} {pos:String} {aft:Array Edge} {g:Option (Nat×Bool)} {x y:Operand} {k k':IntKind},ev σ x=some (.int k l)→ev σ y=some (.int k' c)→(execOp a.eval ⟨d,.makeSlice t x y,ty,pos,aft,g⟩).run P w = .ok (.value (.slice (mkA (some w.heap.size)) l.toNat c.toNat)) (w.alloc (.cells (madeCells z.cells (c.toNat*inf.size)) e)):=by
  intro d ty pos aft g x y k k' ex ey;have hr:=run_make (P:=P) w t e inf z E.ty hinf hz k k' l c h0 h1 h2 h3;simp[execOp,hS.eval ex,hS.eval ey,hr,mkA]
 refine⟨_,_,hx,hS.newLoc _ rfl ⟨?_,_,heap_alloc_new w _,by omega,by unfold maxLen;omega,?_,?_⟩⟩
 ·simp[E.cells]
 ·simp[size_madeCells]
 ·rw[← E.cells];exact Zku z.cells _ _ (by omega)
theorem St.publish (h:St K w0 v0 σ ℓ v a w) {i b:Nat} {e:Loc} {ℓ':List Loc} {o:Obj} (hi:ℓ[i]? = some e) (hb:e.blk=some b) (ho:w.heap[b]? = some o) (hℓ:ℓ'=ℓ.eraseIdx i) :
  ∃ v',v.le v'∧v' b=some o∧St K w0 v0 σ ℓ' v' a w:=by
 subst hℓ;obtain⟨_,hv⟩:=h.loc e (mG hi);obtain⟨hge,hnone⟩:=hv b hb;refine⟨λk=>if k=b then some o else v k,λk x hk=>?_,by simp,h.size,h.dfr,h.fr,h.ext,⟨λk x hk=>?_,λk x hk=>?_,λk hk hn=>?_⟩,λx hx=>?_,?_⟩
 ·have:k≠b:=λe=>by subst e;rw[hnone]at hk;cases hk
  simp[this,hk]
 ·have hk':=h.vst.le k x hk;have:k≠b:=λe=>by subst e;rw[hnone]at hk';cases hk'
  simp[this,hk']
 ·by_cases hkb:k=b
  ·subst hkb;simp at hk;subst hk;exact ho
  ·simp[hkb]at hk;exact h.vin k x hk
 ·have:k≠b:=by
   rintro rfl;rcases hge with h' | h'
   ·omega
   ·exact hn h'
  simp[this,h.vst.old k hk hn]
 ·obtain⟨j,hj⟩:=List.getElem?_of_mem hx;rw[List.getElem?_eraseIdx]at hj;have aux:∀ j',ℓ[j']? = some x→j'≠i→x.holds w∧∀ b',x.blk=some b'→(w0.wd.heap.size≤b'∨b' ∈ w0.lent)∧(if b'=b then some o else v b')=none:=by
   intro j' hj' hne;obtain⟨h1,h2⟩:=h.loc x (mG hj');refine⟨h1,λb' hb'=>?_⟩;have:=Zph h.nd hi hb j' x hj' hne b' hb';simp[this,h2 b' hb']
  split at hj
  ·exact aux j hj (by omega)
  ·exact aux (j+1) hj (by omega)
 ·exact ((List.eraseIdx_sublist ℓ i).filterMap Loc.blk).nodup h.nd
theorem St.pubSlice {α:Type} {A:Rep α} (h:St K w0 v0 σ ℓ v a w) {i n cap sz:Nat} {b:Option Nat} {T:TypeId} {cs:List Value} {l:List α} {ℓ':List Loc} (hi:ℓ[i]? = some (.own b T sz n cap cs)) (hsz:sz=A.n) (hn:n=l.length)
  (hr:A.rels v cs l) (hℓ:ℓ'=ℓ.eraseIdx i):∃ v',v.le v'∧St K w0 v0 σ ℓ' v' a w∧(Zs A).rel v' [.slice (mkA b) n cap] l:=by
 subst hsz;subst hn
 cases b with
 | none =>
  subst hℓ;obtain⟨h1,rfl,_⟩:=(h.loc _ (mG hi)).1;refine⟨v,Zb.le_refl _,h.drop (List.eraseIdx_sublist ℓ i),none,0,rfl,by omega,by unfold maxLen;omega,.inl (List.eq_nil_of_length_eq_zero h1)⟩
 | some b =>
  obtain⟨hcl,cur,hg,hnc,hcx,hcs,htake⟩:=(h.loc _ (mG hi)).1;obtain⟨v',hv,hb,hS⟩:=h.publish hi rfl hg hℓ;refine⟨v',hv,hS,some ⟨b,0,none⟩,cap,rfl,hnc,hcx,.inr ⟨b,0,cur,T,_,rfl,hb,?_⟩⟩;rw[List.drop_zero,htake];exact ZR hv hr
theorem St.pubBox (h:St K w0 v0 σ ℓ v a w) {i b:Nat} {T:TypeId} {cs:List Value} {ℓ':List Loc} (hi:ℓ[i]? = some (.box b T cs)) (hℓ:ℓ'=ℓ.eraseIdx i):∃ v',v.le v'∧St K w0 v0 σ ℓ' v' a w∧v' b=some (.cells cs.toArray T (0,0)):=by
 obtain⟨v',hv,hb,hS⟩:=h.publish hi rfl (h.loc _ (mG hi)).1 hℓ;exact⟨v',hv,hS,hb⟩
theorem at_box {v:Zb} {b:Nat} {T:TypeId} {fr:Nat×Nat} {cs0:List Value} (h:v b=some (.cells cs0.toArray T fr)) (off:Nat) (cs:List Value) (e:(cs0.drop off).take cs.length=cs):At v b off cs:=⟨_,_,_,h,by simpa using e⟩
theorem Z0v (hS:St K w0 v0 σ ℓ v a w) {α:Type} {A:Rep α} {t e:TypeId} {q:Option Addr} {n cap:Nat} {l:List α} {p r:Int} (ht:Zaf P t e A.n) (hr:(Zs A).rel v [.slice q n cap] l)
  (h0:0≤p) (h1:p≤r) (h2:r≤l.length) :
  ∃ q' cap',(∀ {d:Option Nat} {ty:TypeId} {pos:String} {aft:Array Edge} {g:Option (Nat×Bool)} {x:Operand} {lo hi:Option Operand},ev σ x=some (.slice q n cap)→((lo=none∧p=0) ∨ ∃ y k,lo=some y∧ev σ y=some (.int k p))→((hi=none∧r=l.length) ∨ ∃ y k,hi=some y∧ev σ y=some (.int k r)) →
   (execOp a.eval ⟨d,.slice t x lo hi none,ty,pos,aft,g⟩).run P w = .ok (.value (.slice q' (r-p).toNat cap')) w)∧(Zs A).rel v [.slice q' (r-p).toNat cap'] ((l.take r.toNat).drop p.toNat):=by
 obtain⟨q',cap',e',hl,hm,hcase⟩:=hr
 cases e'
 have hlen:((l.take r.toNat).drop p.toNat).length=(r-p).toNat:=by simp;omega
 have hcap:r≤cap:=by omega
 refine⟨if cap=p.toNat then q else q.map (·.add (p.toNat*A.n)),cap-p.toNat,?_,?_⟩
 ·intro d ty pos aft g x lo hi ex elo ehi;have e1:(r-p).toNat=r.toNat-p.toNat:=by omega
  rw[e1];rcases elo with ⟨rfl,rfl⟩ | ⟨y,k,rfl,hy⟩ <;> rcases ehi with ⟨rfl,rfl⟩ | ⟨y',k',rfl,hy'⟩
  ·simp[execOp,Instr.sliceAt,Instr.slice,Instr.sliceBounds,hS.eval ex,ht.1,ht.2]
  ·have hc:¬ ((cap:Int)<r):=by omega
   have hb:0≤r∧r≤cap:=by omega
   simp[execOp,Instr.sliceAt,Instr.slice,Instr.sliceBounds,Instr.sliceBound,asIntOf,hS.eval ex,hS.eval hy',ht.1,ht.2,hb]
  ·have hb:0≤p∧p≤l.length:=by omega
   simp[execOp,Instr.sliceAt,Instr.slice,Instr.sliceBounds,Instr.sliceBound,asIntOf,hS.eval ex,hS.eval hy,ht.1,ht.2,hb]
  ·have hb:0≤r∧r≤cap:=by omega
   have hb':0≤p∧p≤(r.toNat:Int):=by omega
   have hb'':p≤max r 0:=by omega
   simp[execOp,Instr.sliceAt,Instr.slice,Instr.sliceBounds,Instr.sliceBound,asIntOf,hS.eval ex,hS.eval hy,hS.eval hy',ht.1,ht.2,hb,hb',hb'']
 ·refine⟨_,_,by rw[hlen],by omega,by omega,?_⟩;rcases hcase with rfl | ⟨b,off,c,T,fr,rfl,hb,hrel⟩
  ·left;simp
  ·by_cases hz:(l.take r.toNat).drop p.toNat=[]
   ·exact .inl hz
   ·right;have hpos:p.toNat<r.toNat:=by
     rcases Nat.lt_or_ge p.toNat r.toNat with h | h
     ·exact h
     ·exact absurd (List.drop_of_length_le (by simp;omega)) hz
    have hne:¬ cap=p.toNat:=by omega
    rw[iN hne];refine⟨b,off+p.toNat*A.n,c,T,fr,by simp[ZLb],hb,?_⟩;have:=Z5f p.toNat (Zeh r.toNat hrel);rw[hlen];have e1:(List.drop (p.toNat*A.n) (List.take (r.toNat*A.n) (List.take (l.length*A.n) (List.drop off c.toList))))=List.take ((r-p).toNat*A.n) (List.drop (off+p.toNat*A.n) c.toList):=by
     have hle:r.toNat*A.n≤l.length*A.n:=mR _ (by omega);rw[List.take_take,Nat.min_eq_left hle,List.drop_take,List.drop_drop];congr 1;have:(r-p).toNat=r.toNat-p.toNat:=by omega
     rw[this,Nat.sub_mul]
    rw[e1]at this;exact this
end
end Go.Eng
namespace Go.Eng
open Go.RowKit
def idx {α:Type} (l:List α) (i:Int):Option α:=if 0≤i then l[i.toNat]? else none
theorem Zp {α:Type} {l:List α} {i:Int} {x:α} (h:idx l i=some x):0≤i∧l[i.toNat]? = some x∧i<l.length∧i.toNat<l.length:=by
 unfold idx at h;split at h
 ·have:=(List.getElem?_eq_some_iff.1 h).1;exact⟨‹_›,h,by omega,this⟩
 ·cases h
section
variable {P:Program} {K:Nat} {w0:Base} {v0:Zb} {σ:List (Nat×Value)} {ℓ:List Loc} {v:Zb} {a:Act} {w:World}
variable {d:Option Nat} {ty:TypeId} {pos:String} {aft:Array Edge} {g:Option (Nat×Bool)}
variable {ops:Array Oper} {Q:Exit→Act→World→Prop} {rest:List Oper}
theorem ZUm {α:Type} {A:Rep α} {v:Zb} {b off n cap:Nat} {l:List α} {i:Nat} {x:α} (h:(Zs A).rel v [.slice (some ⟨b,off,none⟩) n cap] l) (hi:l[i]? = some x) :
  ∃ cs,At v b (off+i*A.n) cs∧A.rel v cs x:=by
 obtain⟨_,b',off',cs,e,h1,h2⟩:=ZIb h hi
 cases e
 exact⟨cs,h1,h2⟩
theorem At.sub {v:Zb} {b off:Nat} {cs:List Value} (h:At v b off cs) (k:Nat) (cs':List Value) (e:(cs.drop k).take cs'.length=cs') (hk:k+cs'.length≤cs.length):At v b (off+k) cs':=by
 obtain⟨c,T,fr,h1,h2⟩:=h;refine⟨c,T,fr,h1,?_⟩;rw[← List.drop_drop];rw[← h2,List.drop_take,List.take_take,Nat.min_eq_left (by omega)]at e;exact e
theorem ZGd (hS:St K w0 v0 σ ℓ v a w) {j n cap b sz:Nat} {T:TypeId} {cs:List Value} (hj:ℓ[j]? = some (.own (some b) T sz n cap cs)) {i:Nat} {c:List Value} (e:(cs.drop (i*sz)).take sz=c) (hi:i<n)
  (k:Nat) (c':List Value) (e':(c.drop k).take c'.length=c') (hk:k+c'.length≤sz):WAt w b (0+i*sz+k) c':=by
 obtain⟨hcl,_⟩:=(hS.loc _ (mG hj)).1;have h1:i*sz+sz≤n*sz:=by rw[← Nat.succ_mul];exact mR _ hi
 have:=own_at hS hj (i*sz+k) c'.length (by omega);rw[Nat.zero_add];have e2:(cs.drop (i*sz+k)).take c'.length=c':=by
  rw[← e,List.drop_take,List.take_take,Nat.min_eq_left (by omega),List.drop_drop]at e';exact e'
 rw[e2]at this;exact this
theorem ZO (hS:St K w0 v0 σ ℓ v a w) {x:Operand} {f:FuncId} {xs:Array Operand} {ats:Array TypeId} (vals:List Value) (hf:ZF P f) (e:ev σ x=some (.func (.func f) #[] #[]))
  (h:xs.toList.map (ev σ)=vals.map some):(execOp a.eval ⟨d,.call ⟨.value x,xs,ats⟩,ty,pos,aft,g⟩).run P w = .ok (.enter f vals.toArray) w:=by
 have:=Z0r (d:=d) (ty:=ty) (pos:=pos) (aft:=aft) (g:=g) (ats:=ats) hS hf e h
 simpa using this
theorem Zpr (hS:St K w0 v0 σ ℓ v a w) {fn:Fn} {xs:Array Operand} (vals:List Value) (h:xs.toList.map (ev σ)=vals.map some) :
  (execOp a.eval ⟨d,.makeFunc fn #[] xs,ty,pos,aft,g⟩).run P w = .ok (.value (.func fn #[] vals.toArray)) w:=by
 have hx:xs.map a.eval=vals.toArray:=by
  apply Array.ext';rw[Array.toList_map];generalize xs.toList=l at h
  induction l generalizing vals with
  | nil=>cases vals <;> simp_all
  | cons y l ih =>
   cases vals with
   | nil=>simp at h
   | cons u vals=>simp at h;simp[hS.eval h.1,ih _ h.2]
 simp[execOp,Instr.makeFunc,hx]
theorem Z0e (hS:St K w0 v0 σ ℓ v a w) {s t:TypeId} {x:Operand} {y z:Value} (e:ev σ x=some y) (h:∀ w,(convert s t y).run P w = .ok z w) :
  (execOp a.eval ⟨d,.convert s t x,ty,pos,aft,g⟩).run P w = .ok (.value z) w:=by
 simp[execOp,hS.eval e,h]
def ConvI (P:Program) (s t:TypeId) (k' k:IntKind):Prop:=∀ (n:Int) (w:World),(convert s t (.int k' n)).run P w = .ok (.int k (k.wrap n)) w
theorem ZOj (hS:St K w0 v0 σ ℓ v a w) {t:TypeId} {ps:Array (Nat×Operand)} (vals:List (Nat×Value)) {z:Value} (h:ps.toList.map (λp=>(ev σ p.2).map λy=>(p.1,y))=vals.map some)
  (hz:(Instr.build t vals.toArray).run P w = .ok z w):(execOp a.eval ⟨d,.build t ps,ty,pos,aft,g⟩).run P w = .ok (.value z) w:=by
 have hx:ps.map (λ(i,x)=>(i,a.eval x))=vals.toArray:=by
  apply Array.ext';rw[Array.toList_map];generalize ps.toList=l at h;clear hz
  induction l generalizing vals with
  | nil=>cases vals <;> simp_all
  | cons y l ih =>
   cases vals with
   | nil=>simp at h
   | cons u vals =>
    simp at h;obtain⟨⟨y',h1,h2⟩,h3⟩:=h;obtain⟨yi,yo⟩:=y;simp only at h1 h2;simp[hS.eval h1,ih _ h3,← h2]
 simp[execOp,hx,hz]
theorem ZJg {t e:TypeId} {sz n:Nat} {vals:List (Nat×Value)} {cs:List Value} (hS:St K w0 v0 σ ℓ v a w) (hn:cs.length=n*sz) (hmax:n≤maxLen) 
  (hz:∀ w,(Instr.buildSlice t n vals.toArray).run P w = .ok (.slice (some ⟨w.heap.size,0,none⟩) n n) (w.alloc (.cells cs.toArray e))) :
  ∃ b w',(∀ {d:Option Nat} {ty:TypeId} {pos:String} {aft:Array Edge} {g:Option (Nat×Bool)} {ps:Array (Nat×Operand)},ps.toList.map (λp=>(ev σ p.2).map λy=>(p.1,y))=vals.map some→(execOp a.eval ⟨d,.buildSlice t n ps,ty,pos,aft,g⟩).run P w = .ok (.value (.slice (mkA (some b)) n n)) w')∧St K w0 v0 σ (.own (some b) e sz n n cs :: ℓ) v a w':=by
 have hx:∀ {ps:Array (Nat×Operand)},ps.toList.map (λp=>(ev σ p.2).map λy=>(p.1,y))=vals.map some→ps.map (λ(i,x)=>(i,a.eval x))=vals.toArray:=by
  intro ps h;apply Array.ext';rw[Array.toList_map];generalize ps.toList=l at h;clear hz
  induction l generalizing vals with
  | nil=>cases vals <;> simp_all
  | cons y l ih =>
   cases vals with
   | nil=>simp at h
   | cons u vals =>
    simp at h;obtain⟨⟨y',h1,h2⟩,h3⟩:=h;obtain⟨yi,yo⟩:=y;simp only at h1 h2;simp[hS.eval h1,ih h3,← h2]
 refine⟨_,_,λh=>by simp[execOp,hx h,hz w,mkA],hS.newLoc (.cells cs.toArray e) rfl ⟨hn,cs.toArray,heap_alloc_new w _,Nat.le_refl _,hmax,by simpa using hn,?_⟩⟩;rw[← hn];simp
theorem ZIw (place:Nat→Option (Nat×Nat)) (cells:Array Value) (i:Nat) (x:Value) (cs:List Value) (hp:place i=some (0,cs.length)) (hx:x.cells=cs.toArray) (hc:cells.size=cs.length):Instr.fill place cells [(i,x)]=some cs.toArray:=by
 have key:∀ (l:List Value) (k:Nat) (acc:Array Value),acc.size=k+l.length→(l.zipIdx k).foldl (λcs (c,j)=>cs.setIfInBounds (0+j) c) acc=(acc.toList.take k++l).toArray:=by
  intro l
  induction l with
  | nil =>
   intro k acc h;have h':acc.size=k:=by simpa using h
   rw[← h'];simp only[List.zipIdx_nil,List.foldl_nil,List.append_nil];rw[List.take_of_length_le (by simp)]
  | cons y l ih =>
   intro k acc h;simp only[List.zipIdx_cons,List.foldl_cons];rw[ih (k+1) _ (by simp at h ⊢;omega)];congr 1;simp only[Array.toList_setIfInBounds,Nat.zero_add];rw[List.take_set,List.set_eq_take_append_cons_drop,iP (by simp at h ⊢;omega)];simp at h;have e1:((acc.toList.take (k+1)).drop (k+1))=[]:=List.drop_of_length_le (by simp;omega);rw[List.take_take,Nat.min_eq_left (by omega),e1];simp
 have h1:¬ (x.cells.size≠cs.length || decide (0+x.cells.size>cells.size)):=by simp[hx,hc]
 unfold Instr.fill;simp only[hp];rw[iN h1];unfold Instr.fill;congr 1;rw[hx];have:=key cs 0 cells (by omega);rw[← Array.foldl_toList]
 simpa using this
theorem ZSq {t e:TypeId} {sz bytes:Nat} {z:Value} (E:Elem P t e sz bytes z) {x:Value} {cs:List Value} (hx:cellsOf x cs) (hn:cs.length=sz) (hs:sz≤16777216) (w:World) :
  (Instr.buildSlice t 1 #[(0,x)]).run P w = .ok (.slice (some ⟨w.heap.size,0,none⟩) 1 1) (w.alloc (.cells cs.toArray e)):=by
 obtain⟨inf,hinf,hz,hsz,hby⟩:=info_parts E.info;have h0:¬ sz=0:=by have:=E.pos;omega
 have h1:¬ (1*sz>2^24):=by omega
 have hf:=ZIw (λi=>some (i*sz,sz)) ((Array.range (1*sz)).map (z.cells[· % z.cells.size]!)) 0 x cs (by simp[hn]) hx (by simp[hn]);simp only[Nat.one_mul]at hf;simp[Instr.buildSlice,run_underlying E.ty,sizeOf,typeInfo,hinf,hsz,zeroValue,hz,h0,hf,newRow,show ¬ (16777216<sz) by omega]
theorem Z8e {o:Oper} {d:Nat} {x:Value} {w':World} {ℓ':List Loc} {v':Zb} (hw:Region.wanted o (yielded ops a.tmps)=true) (hd:o.dst=some d) (hK:d<K) (hrun:(execOp a.eval o).run P w = .ok (.value x) w') (hS:St K w0 v0 σ ℓ' v' a w')
  (h:∀ a,St K w0 v0 ((d,x) :: σ) ℓ' v' a w'→wpList P ops Q rest a w'):wpList P ops Q (o :: rest) a w :=
 ZQc hw (ZYe hrun (by rw[hd];exact h _ (hS.put x hK)))
def Z3c:Nat→List Value→List (Nat×Value)
 | _,[]=>[]
 | k,x :: l=>(k,x) :: Z3c (k+1) l
theorem ZKr:∀ (l:List Value) (k t:Nat) (x:Value),look (Z3c k l) t=some x→k≤t∧l[t-k]? = some x
 | [],k,t,x,h=>by cases h
 | y :: l,k,t,x,h=>by
  by_cases hk:k=t
  ·subst hk;rw[show Z3c k (y :: l)=(k,y) :: Z3c (k+1) l from rfl,Z4e rfl]at h;cases h;simp
  ·rw[show Z3c k (y :: l)=(k,y) :: Z3c (k+1) l from rfl,ZIg hk]at h
   obtain⟨h1,h2⟩:=ZKr l (k+1) t x h
   refine⟨by omega,?_⟩
   have:t-k=t-(k+1)+1:=by omega
   rw[this];simpa using h2
theorem St.enter {w:World} {v:Zb} (hv:VIn v w) (args:List Value) (hK:args.length≤K) :
  St K w v (Z3c 0 args) [] v { tmps:=args.toArray++Array.replicate (K-args.toArray.size) undef,defers:=[] } w :=
 ⟨by simp;omega,rfl,λt x h=>by
  obtain⟨_,h2⟩:=ZKr args 0 t x h
  have hlt:t<args.length:=(List.getElem?_eq_some_iff.1 h2).1
  have h3:args[t]=x:=(List.getElem?_eq_some_iff.1 h2).2
  simp[Array.getElem?_append,hlt,h3],ExtB.refl (w:Base),⟨Zb.le_refl _,hv,λ_ _ _=>rfl⟩,λe he=>(by cases he),by simp⟩
theorem ZWb {f:FuncId} {fn:Func} {c:Code} {args:List Value} {w:World} {v:Zb} {R:Value→Zb→Prop} (hv:VIn v w) (hf:P.funcs[f]? = some fn) (hb:fn.body=some c) (hK:fn.ntmps=K) (hl:args.length≤K)
  (h:∀ a,St K w v (Z3c 0 args) [] v a w→c.wp P (bodyPost P fn λe w'=>∃ r v',e = .returned r∧Ext w w'∧VStep w v w' v'∧R r v') a w):Ret P f args.toArray w v R :=
 calls_of_wp hf hb (by subst hK;exact h _ (St.enter hv args hl))
def Res (P:Program) (tmps:Array Value) (w:World) (r:ResultVar) (y:Value):Prop:=(match r with
 | .tmp t=>pure (tmps.getD t undef)
 | .cell x t=>do loadVar t (← asAddr (tmps.getD x undef)):Sem Value).run P w = .ok y w
theorem ZY (hS:St K w0 v0 σ ℓ v a w) {t:Nat} {y:Value} (h:look σ t=some y):Res P a.tmps w (.tmp t) y:=by
 have:=hS.fr t y h;unfold Res;simp only[this];rfl
theorem Zaq (hS:St K w0 v0 σ ℓ v a w) {x t:Nat} {b n:Nat} {cs:List Value} (h:look σ x=some (.pointer (some ⟨b,0,none⟩))) (ht:Sized P t n true) (hn:cs.length=n) (hc:WAt w b 0 cs):Res P a.tmps w (.cell x t) (.agg cs.toArray):=by
 have:=hS.fr x _ h;unfold Res;simp only[this];simp[asAddr,ZPo ht hn hc]
theorem res_one (hS:St K w0 v0 σ ℓ v a w) {x t:Nat} {b n:Nat} {y:Value} (h:look σ x=some (.pointer (some ⟨b,0,none⟩))) (ht:Sized P t n false) (hc:WAt w b 0 [y]):Res P a.tmps w (.cell x t) y:=by
 have:=hS.fr x _ h;unfold Res;simp only[this];simp[asAddr,Zds ht hc]
def Z7i (tmps:Array Value):ResultVar→Sem Value
 | .tmp t=>pure (tmps.getD t undef)
 | .cell x t=>do loadVar t (← asAddr (tmps.getD x undef))
theorem Zqm (fn:Func) (tmps:Array Value):results fn tmps=(do let vs ← fn.results.mapM (Z7i tmps);pure (if h:vs.size=1 then vs[0] else .tuple vs)):=by
 unfold results;have:(λr:ResultVar=>(match r with
   | .tmp t=>pure (tmps.getD t undef)
   | .cell x t=>do loadVar t (← asAddr (tmps.getD x undef)):Sem Value))=Z7i tmps:=by funext r;cases r <;> rfl
 rw[← this];rfl
theorem Zkk {tmps:Array Value} {r:ResultVar} {y:Value} (h:Res P tmps w r y):(Z7i tmps r).run P w = .ok y w:=by cases r <;> exact h
theorem Zvb {fn:Func} {tmps:Array Value} {r:ResultVar} {y:Value} (h:fn.results = #[r]) (h1:Res P tmps w r y):(results fn tmps).run P w = .ok y w:=by
 have h1:=Zkk h1;rw[Zqm,h];simp[h1]
theorem Zzc {fn:Func} {tmps:Array Value} {r1 r2:ResultVar} {y1 y2:Value} (h:fn.results = #[r1,r2]) (h1:Res P tmps w r1 y1) (h2:Res P tmps w r2 y2):(results fn tmps).run P w = .ok (.tuple #[y1,y2]) w:=by
 have h1:=Zkk h1;have h2:=Zkk h2;rw[Zqm,h];simp[h1,h2]
theorem Zta {w0:World} {fn:Func} {R:Value→Zb→Prop} (hS:St K w0 v0 σ ℓ v a w) {y:Value} (hr:(results fn a.tmps).run P w = .ok y w) (h:R y v) :
  bodyPost P fn (λe w'=>∃ r v',e = .returned r∧Ext w0 w'∧VStep w0 v0 w' v'∧R r v') .ret a w :=
 ⟨hS.dfr,y,hr,y,v,rfl,hS.ext.ext,hS.vst.ext,h⟩
theorem Zrb {c:Code} (J:Act→World→Prop) (hx:∀ N:Act→World→Prop,(∀ a w,J a w→N a w)→c.wp P (Exit.then N Q) a w) (hy:∀ a w,J a w→Q .normal a w):c.wp P Q a w :=
 Code.wp_mono (λe a w h=>by cases e <;> first | exact hy _ _ h | exact h) (hx J λ_ _ h=>h)
theorem go_on {σ ρ:Type} {body:σ→Option (σ ⊕ ρ)} {n:Nat} {s:σ} {r:ρ} (h:(∃ s',(Sum.inl s:σ ⊕ ρ) = .inl s'∧Zi body n s'=some r)∨(Sum.inl s:σ ⊕ ρ) = .inr r):Zi body n s=some r:=by
 rcases h with ⟨s',e,h⟩ | h
 ·cases e;exact h
 ·cases h
theorem go_out {σ ρ:Type} {body:σ→Option (σ ⊕ ρ)} {n:Nat} {r0 r:ρ} (h:(∃ s',(Sum.inr r0:σ ⊕ ρ) = .inl s'∧Zi body n s'=some r)∨(Sum.inr r0:σ ⊕ ρ) = .inr r):r0=r:=by
 rcases h with ⟨s',e,h⟩ | h
 ·cases e
 ·cases h;rfl
theorem St.bool (hS:St K w0 v0 σ ℓ v a w) {t:Nat} {b c:Bool} (h:look σ t=some (.bool b)) (e:b=c):St K w0 v0 ((t,.bool c) :: σ) ℓ v a w:=hS.learn (by rw[hS.fr t _ h,e])
theorem Zig {α:Type} {A:Rep α} {v:Zb} {cs:List Value} {l:List α} (h:(Zs A).rel v cs l):inR .i64 (l.length:Int):=by
 obtain⟨q,cap,_,h1,h2⟩:=ZFe h;unfold maxLen at h2;rw[Zva];omega
theorem Zzk (hS:St K w0 v0 σ ℓ v a w) {j n cap sz:Nat} {b:Option Nat} {T:TypeId} {cs:List Value} (hj:ℓ[j]? = some (.own b T sz n cap cs)):inR .i64 (n:Int):=by
 have:=(hS.loc _ (mG hj)).1
 cases b with
 | none=>obtain⟨h,_⟩:=this;subst h;decide
 | some b=>obtain⟨_,c,_,h1,h2,_⟩:=this;unfold maxLen at h2;rw[Zva];omega
theorem ZYp (hS:St K w0 v0 σ ℓ v a w) {op:BinOp} {t t':TypeId} {x y:Operand} {p q:Bool} {z:Value} (e:ev σ x=some (.bool p)) (e':ev σ y=some (.bool q))
  (h:∀ w,(binOp op t (.bool p) (.bool q)).run P w = .ok z w):(execOp a.eval ⟨d,.binOp op t x y t',ty,pos,aft,g⟩).run P w = .ok (.value z) w:=by
 cases op <;> simp[execOp,hS.eval e,hS.eval e',eqGuard,h]
theorem Zhr (hS:St K w0 v0 σ ℓ v a w) {t:TypeId} {x:Operand} {p:Bool} (e:ev σ x=some (.bool p)):(execOp a.eval ⟨d,.unOp .not t x,ty,pos,aft,g⟩).run P w = .ok (.value (.bool !p)) w:=by
 simp[execOp,hS.eval e,Op.unary]
theorem ZWl (hS:St K w0 v0 σ ℓ v a w) {t:TypeId} {x:Operand} {k:IntKind} {p:Int} (e:ev σ x=some (.int k p)):(execOp a.eval ⟨d,.unOp .neg t x,ty,pos,aft,g⟩).run P w = .ok (.value (.int k (k.wrap (-p)))) w:=by
 simp[execOp,hS.eval e,Op.unary,Op.intArith]
end
end Go.Eng
namespace Go.Eng
open Go.RowKit
section
variable {P:Program} {K:Nat} {w0:Base} {v0:Zb} {σ:List (Nat×Value)} {ℓ:List Loc} {v:Zb} {a:Act} {w:World}
variable {ops:Array Oper} {Q:Exit→Act→World→Prop} {rest:List Oper}
theorem Zh {N:Act→World→Prop} (h:N a w):Exit.then N Q .normal a w:=h
theorem ZGb {N:Act→World→Prop} {id:Nat} (h:Q (.exit id) a w):Exit.then N Q (.exit id) a w:=h
theorem Z4b {N:Act→World→Prop} (h:Q .ret a w):Exit.then N Q .ret a w:=h
theorem Zkd {id:Nat} (h:Q .normal a w):Exit.inBlock id Q .normal a w:=h
theorem Z3g {id:Nat} (h:Q .ret a w):Exit.inBlock id Q .ret a w:=h
theorem Zoa (hS:St K w0 v0 σ ℓ v a w) {c:Operand} {x y:Code} {b:Bool} (e:ev σ c=some (.bool b)) (hb:b=true) (h:x.wp P Q a w):(Code.cond c x y).wp P Q a w :=
 wp_cond_true (by rw[hS.eval e,hb]) h
theorem Zea (hS:St K w0 v0 σ ℓ v a w) {c:Operand} {x y:Code} {b:Bool} (e:ev σ c=some (.bool b)) (hb:b=false) (h:y.wp P Q a w):(Code.cond c x y).wp P Q a w :=
 wp_cond_false (by rw[hS.eval e,hb]) h
theorem Zfe {c:Code} {τ ρt:Type} {body:τ→Option (τ ⊕ ρt)} {n:Nat} {s0:τ} {ρ:ρt} (hl:Zi body n s0=some ρ) (I:τ→Act→World→Prop) (h0:I s0 a w)
  (round:∀ s a w st,I s a w→body s=some st→∀ N:Act→World→Prop,(∀ s',st = .inl s'→∀ a w,I s' a w→N a w)→(∀ r,st = .inr r→r=ρ)→c.wp P (Exit.then N Q) a w):(Code.loop c).wp P Q a w:=by
 refine wp_loop_fuel (λn a w=>∃ s,Zi body n s=some ρ∧I s a w) n ⟨s0,hl,h0⟩ (λa w ⟨s,h,_⟩=>Zqw h) ?_;rintro n a w ⟨s,h,hI⟩ N hN;obtain⟨st,hst,hcase⟩:=ZYv h;refine round s a w st hI hst N (λs' e a w hI'=>hN a w ⟨s',?_,hI'⟩) (λr e=>?_)
 ·subst e;exact go_on hcase
 ·subst e;exact go_out hcase
theorem Zrn {ℓ:List Loc}:∀ {ips:List Nat} {ℓ':List Loc},ips.map (ℓ[·]?)=ℓ'.map some→∀ e ∈ ℓ',∃ i ∈ ips,ℓ[i]? = some e
 | [],[],_,e,he=>by cases he
 | i :: ips,x :: ℓ',h,e,he=>by
  simp at h
  rcases List.mem_cons.1 he with rfl | he
  ·exact⟨i,List.mem_cons_self ..,h.1⟩
  ·obtain⟨j,hj,h2⟩:=Zrn (by simpa using h.2) e he
   exact⟨j,List.mem_cons_of_mem _ hj,h2⟩
 | [],_ :: _,h,_,_=>by simp at h
 | _ :: _,[],h,_,_=>by simp at h
theorem Zbp {ℓ:List Loc} (hn:(ℓ.filterMap Loc.blk).Nodup):∀ {ips:List Nat} {ℓ':List Loc},ips.map (ℓ[·]?)=ℓ'.map some→ips.Nodup→(ℓ'.filterMap Loc.blk).Nodup
 | [],[],_,_=>by simp
 | i :: ips,x :: ℓ',h,hd=>by
  simp at h
  have hr:=Zbp hn (by simpa using h.2) (List.nodup_cons.1 hd).2
  cases hx:x.blk with
  | none=>rw[List.filterMap_cons_none hx];exact hr
  | some b =>
   rw[List.filterMap_cons_some hx]
   refine List.nodup_cons.2 ⟨λhm=>?_,hr⟩
   obtain⟨y,hy,hyb⟩:=List.mem_filterMap.1 hm
   obtain⟨j,hj,hj2⟩:=Zrn (by simpa using h.2) y hy
   exact Zph hn h.1 hx j y hj2 (λe=>(List.nodup_cons.1 hd).1 (e ▸ hj)) b hyb rfl
 | [],_ :: _,h,_=>by simp at h
 | _ :: _,[],h,_=>by simp at h
theorem St.reorder {ℓ':List Loc} (h:St K w0 v0 σ ℓ v a w) (ips:List Nat) (e:ips.map (ℓ[·]?)=ℓ'.map some) (hd:ips.Nodup):St K w0 v0 σ ℓ' v a w :=
 ⟨h.size,h.dfr,h.fr,h.ext,h.vst,λx hx=>by
  obtain⟨i,_,hi⟩:=Zrn e x hx
  exact h.loc x (mG hi),Zbp h.nd e hd⟩
theorem Zkh (hS:St K w0 v0 σ ℓ v a w) {j n cap sz:Nat} {b:Option Nat} {T:TypeId} {cs:List Value} (hj:ℓ[j]? = some (.own b T sz n cap cs)) {i:Nat} (h:i<n):0+i*sz+sz≤cs.length:=by
 have h1:i*sz+sz≤n*sz:=by rw[← Nat.succ_mul];exact mR _ h
 have:=(hS.loc _ (mG hj)).1
 cases b with
 | none=>obtain⟨h0,_⟩:=this;omega
 | some b=>obtain⟨h0,_⟩:=this;omega
def mk (bytes:Nat) (l c:Int):Option Unit:=if 0≤l∧l≤c∧(bytes:Int)*c≤281474976710656∧c≤9223372036854775807 then some () else none
theorem Z6d {bytes:Nat} {l c:Int} {u:Unit} (h:mk bytes l c=some u):0≤l∧l≤c∧(bytes:Int)*c≤281474976710656∧c≤9223372036854775807:=by
 unfold mk at h;split at h
 ·assumption
 ·cases h
def ZT {α:Type} (bytes:Nat) (l:List α):Option Unit:=if l.length*bytes≤140737488355328 then some () else none
theorem ZFd {α:Type} {bytes:Nat} {l:List α} {u:Unit} (h:ZT bytes l=some u):l.length*bytes≤140737488355328:=by
 unfold ZT at h;split at h
 ·assumption
 ·cases h
def ZI {α:Type} (l:List α) (lo hi:Int):Option (List α):=if 0≤lo∧lo≤hi∧hi≤l.length then some ((l.take hi.toNat).drop lo.toNat) else none
theorem Zef {α:Type} {l y:List α} {lo hi:Int} (h:ZI l lo hi=some y):0≤lo∧lo≤hi∧hi≤l.length∧y=(l.take hi.toNat).drop lo.toNat∧y.length=(hi-lo).toNat:=by
 unfold ZI at h;split at h
 ·rename_i hc;cases h;refine⟨hc.1,hc.2.1,hc.2.2,rfl,?_⟩;simp;omega
 ·cases h
theorem ZUw {k:IntKind} {p q z:Int} (_:inR k p) (h:ZQa k p q=some z):inR k z:=by
 unfold ZQa at h;split at h
 ·cases h
 ·cases h;exact Zub _ _
theorem Zmx {k:IntKind} {p q z:Int} (hp:inR k p) (h:ZW k p q=some z):inR k z:=by
 unfold ZW at h;split at h
 ·cases h
 ·cases h
  generalize hm:(min q.toNat k.bits)=m;have h2:(0:Int)<2^m:=Int.pow_pos (by decide);have h0:k.min≤0∧0≤k.max:=by cases k <;> decide
  rw[Int.fdiv_eq_ediv_of_nonneg _ (Int.le_of_lt h2)];generalize hc:(2:Int)^m=c at h2;have d1:=Int.mul_ediv_add_emod p c;have d2:=Int.emod_nonneg p (show c≠0 by omega);have d3:=Int.emod_lt_of_pos p h2;generalize p / c=q at *;have e1:q≤max p 0:=by
   rcases Int.lt_or_le 0 q with h | h
   ·have:1*q≤c*q:=Int.mul_le_mul_of_nonneg_right (by omega) (by omega);omega
   ·omega
  have e2:min p 0≤q:=by
   rcases Int.lt_or_le q 0 with h | h
   ·have:c*(q+1)≤1*(q+1):=by
     have:=Int.mul_le_mul_of_nonneg_right (c:=-(q+1)) (show (1:Int)≤c by omega) (by omega);rw[Int.mul_neg,Int.mul_neg]at this;omega
    rw[Int.mul_add]at this;omega
   ·omega
  unfold inR at *;omega
theorem ZLe {k:IntKind} {p q:Int} (h:inR k p) (h':inR k q):inR k (max p q):=by unfold inR at *;omega
theorem min_inR {k:IntKind} {p q:Int} (h:inR k p) (h':inR k q):inR k (min p q):=by unfold inR at *;omega
theorem ZS {k:IntKind} {v:Zb} {x:Int} (h:inR k x):(Zd k).rel v [.int k x] x:=⟨rfl,h⟩
theorem Zoh {v:Zb} {x:Bool}:Znb.rel v [.bool x] x:=rfl
theorem Zwh {v:Zb} {x:List UInt8} (h:x.length≤maxLen):ZE.rel v [.string (Zg x)] x:=⟨rfl,h⟩
theorem Zve {α:Type} {A:Rep α} {v:Zb}:A.rels v [] []:=rfl
theorem ZGs {α:Type} {A:Rep α} {v:Zb} {c1 c2:List Value} {x:α} {l:List α} (h1:A.rel v c1 x) (h2:A.rels v c2 l):A.rels v (c1++c2) (x :: l):=⟨c1,c2,rfl,h1,h2⟩
theorem ZSh {id:Nat} {l:List Oper} {fl:Array Bool} (hm:P.follows .mixedOrders=true) (hF:okF l.toArray fl=true) (hS:St K w0 v0 σ ℓ v a w)
  (h:∀ ops,ops=l.toArray→OkF ops fl→∀ w,St K w0 v0 σ ℓ v a w→Rg P ops Q fl (Array.replicate l.length false) a w):(Code.region id l.toArray true).wp P Q a w :=
 Z2u hm (h _ rfl (ZCo hF) _ hS.drew)
theorem op_at {l:List Oper} (hops:ops=l.toArray) {i:Nat} {o:Oper} (h:l[i]? = some o):ops[i]? = some o:=by subst hops;simpa using h
theorem ZEz {l:List Oper} {fl E E':Array Bool} {o:Oper} {d:Nat} {x:Value} (hops:ops=l.toArray) (hF:OkF ops fl) (f:Nat) (hi:l[f]? = some o) (hc:fl.getD f false=true∧(Region.ready .any l.toArray E).contains f=true∧E'=E.setIfInBounds f true) (hd:o.dst=some d) (hK:d<K)
  (hS:St K w0 v0 σ ℓ v a w) (hw:Region.wanted o (yielded ops a.tmps)=true) (hrun:(execOp a.eval o).run P w = .ok (.value x) w) (h:∀ a,St K w0 v0 ((d,x) :: σ) ℓ v a w→Rg P ops Q fl E' a w):Rg P ops Q fl E a w :=
 ZLq hF f (op_at hops hi) hc.1 hd (by rw[hS.size];exact hK) (by subst hops;simpa using hc.2.1) hc.2.2 (.inl ⟨hw,hrun⟩) (h _ (hS.put x hK))
theorem rg_fin {l:List Oper} {fl E:Array Bool} (hops:ops=l.toArray) (hF:OkF ops fl) (hr:Region.ready .any l.toArray E=[]) (h:Q .normal a w):Rg P ops Q fl E a w :=
 Zdh hF (λ_=>h) λp hp=>by subst hops;rw[hr]at hp;cases hp
theorem rg_go1 {l:List Oper} {fl E:Array Bool} (hops:ops=l.toArray) (hF:OkF ops fl) (p:Nat) (hr:Region.ready .any l.toArray E=[p]) (h:Next P ops Q fl E a w p):Rg P ops Q fl E a w :=
 Zdh hF (λh0=>by subst hops;rw[hr]at h0;cases h0) λq hq=>by subst hops;rw[hr]at hq;rw[List.mem_singleton.1 hq];exact h
def Z1b (P:Program) (ops:Array Oper) (l:List Oper) (a:Act) (w:World) (J:List Nat):Prop:=∀ j ∈ J,∀ oj,l[j]? = some oj→ZWc P ops oj a w
theorem Z2b {l:List Oper}:Z1b P ops l a w []:=λ_ h=>by cases h
theorem Z0t {l:List Oper} {J:List Nat} {j d:Nat} {o:Oper} {x:Value} (hS:St K w0 v0 σ ℓ v a w) (hi:l[j]? = some o) (hd:o.dst=some d) (hl:look σ d=some x) (hw:Region.wanted o (yielded ops a.tmps)=true) (hrun:(execOp a.eval o).run P w = .ok (.value x) w)
  (r:Z1b P ops l a w J):Z1b P ops l a w (j :: J):=λk hk ok hok=>by
 rcases List.mem_cons.1 hk with rfl | hk
 ·rw[hi]at hok;cases hok
  exact⟨d,hd,λ_=>by rw[hS.fr d x hl];exact hrun,λh=>absurd (hw.symm.trans h) (by simp)⟩
 ·exact r k hk ok hok
def okP (l:List Oper) (fl E E':Array Bool) (p:Nat) (A J:List Nat):Bool :=
 Zld l.toArray p [] A&&((List.range l.length).all λj=>!(E.getD j false&&fl.getD j false) || A.contains j || J.contains j)&&(E'==E.setIfInBounds p true)
theorem Ziv {l:List Oper} {fl E E':Array Bool} {p:Nat} {A J:List Nat} (h:okP l fl E E' p A J=true) :
  Zld l.toArray p [] A=true∧((List.range l.toArray.size).all λj=>!(E.getD j false&&fl.getD j false) || A.contains j || J.contains j)=true∧E'=E.setIfInBounds p true:=by
 simp only[okP,Bool.and_eq_true,beq_iff_eq]at h;exact⟨h.1.1,by simpa using h.1.2,h.2⟩
theorem nx_of {l:List Oper} {fl E E':Array Bool} {p:Nat} {o:Oper} (A J:List Nat) (hops:ops=l.toArray) (hi:l[p]? = some o) (hP:okP l fl E E' p A J=true) (hw:Region.wanted o (yielded ops a.tmps)=true)
  (h:Zpb P o a w λx w'=>Z1b P ops l (a.put o.dst x) w' J∧Rg P ops Q fl E' (a.put o.dst x) w'):Next P ops Q fl E a w p:=by
 obtain⟨h1,h2,h3⟩:=Ziv hP;refine next_of A J (op_at hops hi) (by subst hops;exact h1) (by subst hops;exact h2) h3 hw (ZRf h λx w' ⟨k1,k2⟩=>⟨λj hj oj hoj=>k1 j hj oj (by subst hops;simpa using hoj),k2⟩)
theorem nx_v {l:List Oper} {fl E E':Array Bool} {p d:Nat} {o:Oper} {x:Value} (A J:List Nat) (hops:ops=l.toArray) (hi:l[p]? = some o) (hP:okP l fl E E' p A J=true) (hS:St K w0 v0 σ ℓ v a w) (hw:Region.wanted o (yielded ops a.tmps)=true) (hd:o.dst=some d) (hK:d<K)
  (hrun:(execOp a.eval o).run P w = .ok (.value x) w) (h:∀ a,St K w0 v0 ((d,x) :: σ) ℓ v a w→Z1b P ops l a w J∧Rg P ops Q fl E' a w):Next P ops Q fl E a w p :=
 nx_of A J hops hi hP hw (ZYe hrun (by rw[hd];exact h _ (hS.put x hK)))
theorem nx_call {l:List Oper} {fl E E':Array Bool} {p d:Nat} {o:Oper} {f:FuncId} {args:Array Value} {R:Value→Zb→Prop} (A J:List Nat) (hops:ops=l.toArray) (hi:l[p]? = some o) (hP:okP l fl E E' p A J=true) (hS:St K w0 v0 σ ℓ v a w) (hw:Region.wanted o (yielded ops a.tmps)=true) (hd:o.dst=some d) (hK:d<K)
  (hrun:(execOp a.eval o).run P w = .ok (.enter f args) w) (hc:Ret P f args w v R)
  (h:∀ x v' a w,v.le v'→R x v'→St K w0 v0 ((d,x) :: σ) ℓ v' a w→Z1b P ops l a w J∧Rg P ops Q fl E' a w):Next P ops Q fl E a w p :=
 nx_of A J hops hi hP hw (ZXc hrun (Calls.mono hc λe w' ⟨r,v',e1,e2,e3,e4⟩=>⟨r,e1,by
  rw[hd]
  exact h r v' _ _ e3.le e4 ((hS.step e2 e3).put r hK)⟩))
theorem nx_skip {l:List Oper} {fl E E':Array Bool} {p:Nat} {o:Oper} {w':World} (A J:List Nat) (hops:ops=l.toArray) (hi:l[p]? = some o) (hP:okP l fl E E' p A J=true) (hw:Region.wanted o (yielded ops a.tmps)=true) (hd:o.dst=none)
  (hrun:(execOp a.eval o).run P w = .ok .skip w') (h:Z1b P ops l a w' J∧Rg P ops Q fl E' a w'):Next P ops Q fl E a w p :=
 nx_of A J hops hi hP hw (Zjm hrun (by rw[hd];exact h))
end
end Go.Eng
namespace Go.Eng
open Go.RowKit
variable {P:Program} {K:Nat} {w0:Base} {v0:Zb} {σ:List (Nat×Value)} {ℓ:List Loc} {v:Zb} {a:Act} {w:World}
variable {d:Option Nat} {ty:TypeId} {pos:String} {aft:Array Edge} {g:Option (Nat×Bool)}
theorem Zlc (hS:St K w0 v0 σ ℓ v a w) {x:Operand} {f:FuncId} {xs:Array Operand} {ats:Array TypeId} {y:Value} (vals:List Value) (hf:∀ w,(callFunc f vals.toArray).run P w = .ok (.value y) w) (e:ev σ x=some (.func (.func f) #[] #[]))
  (h:xs.toList.map (ev σ)=vals.map some):(execOp a.eval ⟨d,.call ⟨.value x,xs,ats⟩,ty,pos,aft,g⟩).run P w = .ok (.value y) w:=by
 have hx:xs.map a.eval=vals.toArray:=by
  apply Array.ext';rw[Array.toList_map];generalize xs.toList=l at h;clear hf
  induction l generalizing vals with
  | nil=>cases vals <;> simp_all
  | cons y l ih =>
   cases vals with
   | nil=>simp at h
   | cons u vals =>
    simp at h;simp[hS.eval h.1,ih vals h.2]
 simp[execOp,resolve,Deferred.ofValue,invoke,hx,hS.eval e,hf w]
def ZEb (x y c:Int):Option (Int×Int):=if 0≤x∧0≤y∧0≤c∧c≤1 then some ((x+y+c)%18446744073709551616,(x+y+c) / 18446744073709551616) else none
def Zed (x y b:Int):Option (Int×Int):=if 0≤x∧0≤y∧0≤b∧b≤1 then some ((x-y-b)%18446744073709551616,if x<y+b then 1 else 0) else none
def ZEj:Array Value→Sem Value:=λargs=>do
 let (x, y, b) ← Extern.MathBitsCarry.three "Sub64" args
 pure (Extern.MathBitsCarry.pair ((x+Extern.MathBitsCarry.m64-y-b)%Extern.MathBitsCarry.m64) (if x<y+b then 1 else 0))
theorem ZHz (x y b:Nat) (hb:b≤1) (w:World) :
  (ZEj #[.int .u64 x,.int .u64 y,.int .u64 b]).run P w =
   .ok (.tuple #[.int .u64 (((x+18446744073709551616-y-b)%18446744073709551616:Nat):Int),.int .u64 ((if x<y+b then 1 else 0:Nat):Int)]) w:=by
 have:b=0∨b=1:=by omega
 rcases this with rfl | rfl <;> rfl
def ZPc (P : Program) (f : FuncId) (e : Array Value → Sem Value) : Prop := ∃ fn, P.funcs[f]? = some fn ∧ (fn.name == "runtime.NumGoroutine") = false ∧ fn.body.isNone = true ∧ Extern.findNext fn = none ∧ Extern.find fn = some e
theorem ZPc.run {f:FuncId} {e:Array Value→Sem Value} (h:ZPc P f e) (args:Array Value) (w:World):(callFunc f args).run P w=((e args).run P w).andThen λv w'=>.ok (.value v) w':=by
 obtain⟨fn,h1,h2,h3,h4,h5⟩:=h;exact run_callFunc_extern h1 h2 h3 h4 h5 args w
theorem ZPl {f:FuncId} (hf:ZPc P f add64Entry) {x y c:Int} {r:Int×Int} (h:ZEb x y c=some r) (w:World):(callFunc f #[.int .u64 x,.int .u64 y,.int .u64 c]).run P w = .ok (.value (.tuple #[.int .u64 r.1,.int .u64 r.2])) w:=by
 unfold ZEb at h;split at h
 ·rename_i hh
  cases h
  obtain⟨h1,h2,h3,h4⟩:=hh;rw[hf.run,run_add64 x y c h1 h2 h3 h4];rfl
 ·cases h
theorem ZSp {f:FuncId} (hf:ZPc P f ZEj) {x y c:Int} {r:Int×Int} (hx:inR .u64 x) (hy:inR .u64 y) (h:Zed x y c=some r) (w:World):(callFunc f #[.int .u64 x,.int .u64 y,.int .u64 c]).run P w = .ok (.value (.tuple #[.int .u64 r.1,.int .u64 r.2])) w:=by
 unfold Zed at h;split at h
 ·rename_i hh
  cases h
  obtain⟨h1,h2,h3,h4⟩:=hh;obtain⟨X,rfl⟩:=oZ h1;obtain⟨Y,rfl⟩:=oZ h2;obtain⟨C,rfl⟩:=oZ h3;rw[hf.run,ZHz X Y C (by omega)];have hx':(X:Int)≤18446744073709551615:=hx.2;have hy':(Y:Int)≤18446744073709551615:=hy.2;have e3:(((X+18446744073709551616-Y-C)%18446744073709551616:Nat):Int)=((X:Int)-Y-C)%18446744073709551616:=by omega
  have e4:(((if X<Y+C then 1 else 0:Nat)):Int)=if (X:Int)<Y+C then 1 else 0:=by
   by_cases h:X<Y+C
   ·rw[iP h,iP (by omega)];rfl
   ·rw[iN h,iN (by omega)];rfl
  rw[e3,e4];rfl
 ·cases h
theorem Zkm {x y c:Int} {r:Int×Int} (h:ZEb x y c=some r):inR .u64 r.1:=by
 unfold ZEb at h;split at h
 ·cases h;exact⟨by show (0:Int)≤_;omega,by show _≤(18446744073709551615:Int);omega⟩
 ·cases h
theorem addW_hi {x y c:Int} {r:Int×Int} (hx:inR .u64 x) (hy:inR .u64 y) (h:ZEb x y c=some r):inR .u64 r.2:=by
 have hx':x≤18446744073709551615:=hx.2;have hy':y≤18446744073709551615:=hy.2;unfold ZEb at h;split at h
 ·cases h;exact⟨by show (0:Int)≤_;omega,by show _≤(18446744073709551615:Int);omega⟩
 ·cases h
theorem Z3p {x y c:Int} {r:Int×Int} (h:Zed x y c=some r):inR .u64 r.1:=by
 unfold Zed at h;split at h
 ·cases h;exact⟨by show (0:Int)≤_;omega,by show _≤(18446744073709551615:Int);omega⟩
 ·cases h
theorem Z0s {x y c:Int} {r:Int×Int} (h:Zed x y c=some r):inR .u64 r.2:=by
 unfold Zed at h;split at h
 ·cases h
  split <;> exact⟨by show (0:Int)≤_;omega,by show _≤(18446744073709551615:Int);omega⟩
 ·cases h
end Go.Eng
namespace Go.Eng
open Go.RowKit
variable {P:Program} {K:Nat} {w0:Base} {v0:Zb} {σ:List (Nat×Value)} {ℓ:List Loc} {v:Zb} {a:Act} {w:World}
variable {d:Option Nat} {ty:TypeId} {pos:String} {aft:Array Edge} {g:Option (Nat×Bool)}
theorem ZOt {α:Type} {A:Rep α} {v:Zb} {cs:List Value} {l:List α} (h:(Zs A).rel v cs l):∃ q n cap,cs=[.slice q n cap]:=by
 obtain⟨q,cap,e,_⟩:=h;exact⟨q,_,cap,e⟩
theorem ZYa {α:Type} {A:Rep α} {v:Zb} {q:Option Addr} {n cap:Nat} {l:List α} (h:(Zs A).rel v [.slice q n cap] l):n=l.length:=by
 obtain⟨q',cap',e,_⟩:=h;cases e;rfl
theorem Zec (hS:St K w0 v0 σ ℓ v a w) {t et:TypeId} {sz:Nat} {x:Operand} {q:Option Addr} {n m cap:Nat} {ats:Array TypeId} (hn:n=m) (e:ev σ x=some (.slice q n cap)) (h:ats[0]? = some t) (ht:Zaf P t et sz) :
  (execOp a.eval ⟨d,.call ⟨.builtin .len,#[x],ats⟩,ty,pos,aft,g⟩).run P w = .ok (.value (.int .i64 m)) w:=by
 subst hn;exact Zbe hS e h ht
theorem ltI {n k:Nat} {i:Int} (hn:n=k) (h:i<k):i<n:=by rw[hn];exact h
theorem ltN {n k i:Nat} (hn:n=k) (h:i<k):i<n:=by rw[hn];exact h
theorem posN {n k i:Nat} (hn:n=k) (h:i<k):0<n:=by omega
theorem setN {α:Type} {n:Nat} {l:List α} {i:Nat} {x:α} (hn:n=l.length):n=(l.set i x).length:=by rw[List.length_set];exact hn
theorem repN {α:Type} {n:Nat} {x:α}:n=(List.replicate n x).length:=by simp
theorem Zfo {t e:TypeId} {sz bytes:Nat} {z:Value} (E:Elem P t e sz bytes z) (hS:St K w0 v0 σ ℓ v a w) {l c:Int} {cs:List Value}
  (h0:0≤l) (h1:l≤c) (h2:(bytes:Int)*c≤281474976710656) (h3:c≤9223372036854775807) (hcs:cs=(List.replicate l.toNat z.cells.toList).flatten) :
  ∃ b w',(∀ {d:Option Nat} {ty:TypeId} {pos:String} {aft:Array Edge} {g:Option (Nat×Bool)} {x y:Operand} {k k':IntKind},ev σ x=some (.int k l)→ev σ y=some (.int k' c)→(execOp a.eval ⟨d,.makeSlice t x y,ty,pos,aft,g⟩).run P w = .ok (.value (.slice (mkA (some b)) l.toNat c.toNat)) w') ∧
   St K w0 v0 σ (.own (some b) e sz l.toNat c.toNat cs :: ℓ) v a w':=by
 subst hcs;exact Z5s E hS h0 h1 h2 h3
theorem appN {α:Type} {l l':List α} {n m:Nat} (h:n=l.length) (h':m=l'.length):(l++l').length=n+m:=by rw[lA,h,h']
theorem Zse {α:Type} {A:Rep α} {v:Zb} {cs:List Value} {l:List α} {n:Nat} (h:A.rels v cs l) (hn:n=l.length):cs.length=n*A.n:=by rw[hn];exact Z6a h
theorem ZGf {α:Type} {A:Rep α} {v:Zb} {cs c:List Value} {l:List α} {i sz m:Nat} {x:α} (h:A.rels v cs l) (hi:i<l.length) (hx:A.rel v c x) (hsz:sz=A.n) (hm:m=A.n) :
  A.rels v (cs.take (0+i*sz)++c++cs.drop (0+i*sz+m)) (l.set i x):=by
 subst hsz;subst hm;have:=Zjw h hi hx;rw[A.len hx]at this;rw[Nat.zero_add];exact this
end Go.Eng
namespace Go.Eng
open Go.RowKit
variable {P:Program} {K:Nat} {w0:Base} {v0:Zb} {σ:List (Nat×Value)} {ℓ:List Loc} {v:Zb} {a:Act} {w:World}
variable {d:Option Nat} {ty:TypeId} {pos:String} {aft:Array Edge} {g:Option (Nat×Bool)}
theorem Z3b (l:List UInt8):(Zg l).size=l.length:=by simp[Zg,ByteArray.size]
theorem ZDk (l:List UInt8):(Zg l).toList=l:=ByteArray.toList_mk l
theorem str_inR {l:List UInt8} (h:l.length≤maxLen):inR .i64 (l.length:Int):=by unfold maxLen at h;rw[Zva];omega
theorem Z2p (x:UInt8):inR .u8 (x.toNat:Int):=by
 have:=x.toNat_lt;exact⟨by show (0:Int)≤_;omega,by show _≤(255:Int);omega⟩
theorem ZHs (hS:St K w0 v0 σ ℓ v a w) {t:TypeId} {x:Operand} {l:List UInt8} {ats:Array TypeId} (e:ev σ x=some (.string (Zg l))) (h:ats[0]? = some t) (ht:P.underlying t=some .string) :
  (execOp a.eval ⟨d,.call ⟨.builtin .len,#[x],ats⟩,ty,pos,aft,g⟩).run P w = .ok (.value (.int .i64 l.length)) w:=by
 simp[execOp,resolve,invoke,builtin,Builtin.len_,hS.eval e,h,run_underlying ht,goInt,Z3b]
theorem Zju (hS:St K w0 v0 σ ℓ v a w) {t:TypeId} {x i:Operand} {l:List UInt8} {k:IntKind} {j:Int} {y:UInt8} (e:ev σ x=some (.string (Zg l))) (ei:ev σ i=some (.int k j)) (ht:P.underlying t=some .string) (h:idx l j=some y) :
  (execOp a.eval ⟨d,.index t x i,ty,pos,aft,g⟩).run P w = .ok (.value (.int .u8 (y.toNat:Int))) w:=by
 obtain⟨h0,h1,h2,h3⟩:=Zp h;have hr:=run_index_string (P:=P) w t (Zg l) k j ht;have hs:0≤j∧j<(Zg l).size:=⟨h0,by rw[Z3b];exact h2⟩;rw[dif_pos hs]at hr;have hg:(Zg l)[j.toNat]'(by rw[Z3b];exact h3)=y:=by
  show (l.toArray)[j.toNat]'(by simpa using h3)=y;rw[List.getElem?_eq_getElem h3]at h1
  simpa using h1
 rw[hg]at hr;simp[execOp,hS.eval e,hS.eval ei,hr]
theorem ZMs (l:List UInt8) (p r:Nat):(Zg l).extract p r=Zg ((l.take r).drop p):=by
 unfold Zg;rw[ByteArray.extract_mk,List.drop_take]
theorem Zpu (hS:St K w0 v0 σ ℓ v a w) {t:TypeId} {x:Operand} {lo hi:Option Operand} {l y:List UInt8} {p r:Int} (e:ev σ x=some (.string (Zg l))) (ht:P.underlying t=some .string)
  (elo:(lo=none∧p=0) ∨ ∃ y k,lo=some y∧ev σ y=some (.int k p)) (ehi:(hi=none∧r=l.length) ∨ ∃ y k,hi=some y∧ev σ y=some (.int k r)) (h:ZI l p r=some y) :
  (execOp a.eval ⟨d,.slice t x lo hi none,ty,pos,aft,g⟩).run P w = .ok (.value (.string (Zg y))) w:=by
 obtain⟨h0,h1,h2,rfl,_⟩:=Zef h;have hl:r≤(Zg l).size:=by rw[Z3b];exact h2
 have hle:(List.take r.toNat l).length=r.toNat:=by simp;omega
 have e0:Zg ((l.take r.toNat).drop p.toNat)=(Zg l).extract p.toNat r.toNat:=(ZMs l _ _).symm;rcases elo with ⟨rfl,rfl⟩ | ⟨y,k,rfl,hy⟩ <;> rcases ehi with ⟨rfl,rfl⟩ | ⟨y',k',rfl,hy'⟩
 ·have:=run_slice_string_all (P:=P) w t (Zg l) ht;have e1:(Zg l).extract 0 (Zg l).size=Zg l:=by rw[ZMs,Z3b];simp
  rw[e1]at this;simp[execOp,Instr.sliceAt,run_underlying ht,hS.eval e,this]
 ·have:=run_slice_string_to_if (P:=P) w t (Zg l) k' r ht;have hc:0≤r∧r≤(Zg l).size:=⟨by omega,hl⟩;simp[hc]at this;rw[e0];simp[execOp,Instr.sliceAt,run_underlying ht,hS.eval e,hS.eval hy',this]
 ·have:=run_slice_string_from_if (P:=P) w t (Zg l) k p ht;have hc:0≤p∧p≤(Zg l).size:=⟨by omega,by omega⟩;simp[hc]at this;rw[e0];simp[execOp,Instr.sliceAt,run_underlying ht,hS.eval e,hS.eval hy,this,Z3b]
 ·have:=run_slice_string (P:=P) w t (Zg l) k k' p r ht h0 h1 hl;rw[e0];simp[execOp,Instr.sliceAt,run_underlying ht,hS.eval e,hS.eval hy,hS.eval hy',this]
theorem ZSj (hS:St K w0 v0 σ ℓ v a w) {op:BinOp} {t t':TypeId} {x y:Operand} {l m:List UInt8} {z:Value} (e:ev σ x=some (.string (Zg l))) (e':ev σ y=some (.string (Zg m)))
  (h:∀ w,(binOp op t (.string (Zg l)) (.string (Zg m))).run P w = .ok z w):(execOp a.eval ⟨d,.binOp op t x y t',ty,pos,aft,g⟩).run P w = .ok (.value z) w:=by
 cases op <;> simp[execOp,hS.eval e,hS.eval e',eqGuard,h]
def Z4 (l:List UInt8):Option Unit:=if l.length≤maxLen then some () else none
theorem Z6j {l:List UInt8} {u:Unit} (h:Z4 l=some u):l.length≤maxLen:=by
 unfold Z4 at h;split at h
 ·assumption
 ·cases h
theorem Zut {t:TypeId} {l m:List UInt8} {u:Unit} (h:Z4 (l++m)=some u) (w:World):(binOp .add t (.string (Zg l)) (.string (Zg m))).run P w = .ok (.string (Zg (l++m))) w:=by
 have:=Z6j h;rw[lA]at this;have h2:=run_string_add_sum (P:=P) w (Zg l) (Zg m) (by rw[Z3b,Z3b];exact this);have e:Zg l++Zg m=Zg (l++m):=ByteArray.mk_append_mk l m;rw[e]at h2
 simpa [binOp] using h2
theorem str_eql {t:TypeId} {l m:List UInt8} (w:World):(binOp .eql t (.string (Zg l)) (.string (Zg m))).run P w = .ok (.bool (l==m)) w:=by
 simp[binOp,Op.stringOp,ZDk]
theorem str_neq {t:TypeId} {l m:List UInt8} (w:World):(binOp .neq t (.string (Zg l)) (.string (Zg m))).run P w = .ok (.bool (l != m)) w:=by
 simp[binOp,Op.stringOp,ZDk,bne]
theorem Zyv {α:Type} {l y:List α} {p r:Int} (h:ZI l p r=some y) {n:Nat} (hl:l.length≤n):y.length≤n:=by
 obtain⟨h0,h1,h2,rfl,h3⟩:=Zef h;omega
end Go.Eng
namespace Go.Eng
open Go.RowKit
variable {P:Program} {K:Nat} {w0:Base} {v0:Zb} {σ:List (Nat×Value)} {ℓ:List Loc} {v:Zb} {a:Act} {w:World}
variable {d:Option Nat} {ty:TypeId} {pos:String} {aft:Array Edge} {g:Option (Nat×Bool)}
def ZPd (P:Program) (f:FuncId) (args:Array Value) (w:World) (v:Zb) (lent:List Nat) (R:Value→Zb→World→Prop):Prop :=
 Calls P f args w λe w'=>∃ r v',e = .returned r∧ExtB ⟨w,lent⟩ w'∧VStepB ⟨w,lent⟩ v w' v'∧R r v' w'
theorem St.lend (h:St K w0 v0 σ ℓ v a w) {i b:Nat} {e:Loc} {ℓ':List Loc} (hi:ℓ[i]? = some e) (hb:e.blk=some b) (hℓ:ℓ'=ℓ.eraseIdx i) :
  ∃ v' o,v.le v'∧v' b=some o∧St K w0 v0 σ ℓ' v' a w∧w.heap[b]? = some o∧v b=none∧(w0.wd.heap.size≤b∨b ∈ w0.lent):=by
 obtain⟨he,hv⟩:=h.loc e (mG hi);obtain⟨_,hg⟩:=Loc.blk_get he hb;obtain⟨v',h1,h2,h3⟩:=h.publish hi hb hg hℓ;exact⟨v',_,h1,h2,h3,hg,(hv b hb).2,(hv b hb).1⟩
def Loc.fits (e:Loc) (o:Obj):Prop:=∀ (w:World) (b:Nat),e.blk=some b→w.heap[b]? = some o→e.holds w
theorem Loc.fits_of {e:Loc} {b:Nat} {o:Obj} (hb:e.blk=some b) (h:e.holds w) (hg:w.heap[b]? = some o):e.fits o:=by
 intro w' b' hb' hg';rw[hb]at hb';cases hb'
 cases e with
 | box b'' T cs =>
  cases hb
  show _=_;rw[hg',← hg];exact h
 | own b'' T sz n cap cs =>
  cases hb
  obtain⟨h1,cur,h2,h3⟩:=h;exact⟨h1,cur,by rw[hg',← hg];exact h2,h3⟩
 | mp b'' l =>
  cases hb
  obtain⟨es,c,h1,h2⟩:=h;exact⟨es,c,by rw[hg',← hg];exact h1,h2⟩
 | it b'' s p =>
  cases hb
  show _=_;rw[hg',← hg];exact h
theorem St.lendOwn (h:St K w0 v0 σ ℓ v a w) {i b:Nat} {e:Loc} {ℓ':List Loc} (hi:ℓ[i]? = some e) (hb:e.blk=some b) (hℓ:ℓ'=ℓ.eraseIdx i) :
  ∃ v' o,v.le v'∧v' b=some o∧St K w0 v0 σ ℓ' v' a w∧e.fits o∧e.holds w∧w.heap[b]? = some o∧v b=none∧(w0.wd.heap.size≤b∨b ∈ w0.lent):=by
 obtain⟨v',o,h1,h2,h3,h4,h5,h6⟩:=h.lend hi hb hℓ;have he:=(h.loc e (mG hi)).1;exact⟨v',o,h1,h2,h3,Loc.fits_of hb he h4,he,h4,h5,h6⟩
theorem St.takeBack {v1:Zb} (h:St K w0 v0 σ ℓ v a w) {b:Nat} {o:Obj} {e:Loc} (hv:v1.le v) (hb:e.blk=some b) (ho:v b=some o) (hf:e.fits o) (hn:v1 b=none) (h1:v0.le v1) (hfr:w0.wd.heap.size≤b∨b ∈ w0.lent) :
  ∃ v',v1.le v'∧St K w0 v0 σ (e :: ℓ) v' a w:=by
 refine⟨λk=>if k=b then none else v k,λk x hk=>?_,h.size,h.dfr,h.fr,h.ext,⟨λk x hk=>?_,λk x hk=>?_,λk hk hl=>?_⟩,λx hx=>?_,?_⟩
 ·have:k≠b:=by rintro rfl;rw[hn]at hk;cases hk
  simp[this,hv _ _ hk]
 ·have hk':=h1 _ _ hk;have:k≠b:=by rintro rfl;rw[hn]at hk';cases hk'
  simp[this,h.vst.le _ _ hk]
 ·by_cases hkb:k=b
  ·simp[hkb]at hk
  ·simp[hkb]at hk;exact h.vin k x hk
 ·by_cases hkb:k=b
  ·subst hkb;simp
   cases hv0:v0 k with
   | none=>rfl
   | some x=>have:=h1 _ _ hv0;rw[hn]at this;cases this
  ·simp[hkb];exact h.vst.old k hk hl
 ·rcases List.mem_cons.1 hx with rfl | hx
  ·refine⟨hf w b hb (h.vin _ _ ho),λb' hb'=>?_⟩;rw[hb]at hb';cases hb';exact⟨hfr,by simp⟩
  ·obtain⟨h2,h3⟩:=h.loc x hx;refine⟨h2,λb' hb'=>⟨(h3 b' hb').1,?_⟩⟩;have:=(h3 b' hb').2;show (if b'=b then none else v b')=none;rw[this];simp
 ·rw[List.filterMap_cons_some hb];refine List.nodup_cons.2 ⟨λhm=>?_,h.nd⟩;obtain⟨x,hx,hxb⟩:=List.mem_filterMap.1 hm;have:=((h.loc x hx).2 b hxb).2;rw[ho]at this;cases this
theorem St.afterL {v':Zb} {w':World} (h:St K w0 v0 σ ℓ v a w) {i b:Nat} {e e':Loc} (hi:ℓ[i]? = some e) (hb:e.blk=some b) (hb':e'.blk=some b) (x:ExtB ⟨w,[b]⟩ w') (s:VStepB ⟨w,[b]⟩ v w' v') (hh:e'.holds w') (hn:v' b=none) :
  St K w0 v0 σ (ℓ.set i e') v' a w':=by
 obtain⟨he,hv⟩:=h.loc e (mG hi);obtain⟨hfr,hnone⟩:=hv b hb;obtain⟨_,hg⟩:=Loc.blk_get he hb;refine⟨h.size,h.dfr,h.fr,⟨x.os.trans h.ext.os,x.tape.trans h.ext.tape,x.output.trans h.ext.output,Nat.le_trans h.ext.size x.size,λk hk hl=>?_⟩,⟨Zb.le_trans h.vst.le s.le,s.vin,λk hk hl=>?_⟩,λy hy=>?_,?_⟩
 ·have hkb:k≠b:=by
   rintro rfl;rcases hfr with h' | h'
   ·omega
   ·exact hl h'
  rw[x.block k (Nat.lt_of_lt_of_le hk h.ext.size) (by simpa using hkb)];exact h.ext.block k hk hl
 ·have hkb:k≠b:=by
   rintro rfl;rcases hfr with h' | h'
   ·omega
   ·exact hl h'
  rw[s.old k (Nat.lt_of_lt_of_le hk h.ext.size) (by simpa using hkb)];exact h.vst.old k hk hl
 ·obtain⟨j,hj⟩:=List.getElem?_of_mem hy;by_cases hji:j=i
  ·subst hji;have hlt:j<ℓ.length:=(List.getElem?_eq_some_iff.1 hi).1;rw[List.getElem?_set_self hlt]at hj
   cases hj
   refine⟨hh,λb2 h2=>?_⟩;rw[hb']at h2;cases h2;exact⟨hfr,hn⟩
  ·rw[List.getElem?_set_ne (λe=>hji e.symm)]at hj;obtain⟨h1,h2⟩:=h.loc y (mG hj);have hne:=Zph h.nd hi hb j y hj hji;have same:∀ b',y.blk=some b'→w'.heap[b']? = w.heap[b']?:=λb' hb2=>by
    obtain⟨_,hg2⟩:=Loc.blk_get h1 hb2;exact x.block b' (Z5b hg2) (by simpa using hne b' hb2)
   refine⟨?_,λb' hb2=>⟨(h2 b' hb2).1,?_⟩⟩
   ·cases y with
    | box b' T' cs=>show _=_;rw[same b' rfl];exact h1
    | own b' T' sz n cap cs =>
     cases b' with
     | none=>exact h1
     | some b'=>obtain⟨k1,c',k2,k3⟩:=h1;exact⟨k1,c',by rw[same b' rfl];exact k2,k3⟩
    | mp b' l=>obtain⟨es,c',k1,k2⟩:=h1;exact⟨es,c',by rw[same b' rfl];exact k1,k2⟩
    | it b' s p=>show _=_;rw[same b' rfl];exact h1
   ·obtain⟨_,hg2⟩:=Loc.blk_get h1 hb2;rw[s.old b' (Z5b hg2) (by simpa using hne b' hb2)];exact (h2 b' hb2).2
 ·rw[ZJn hi (hb'.trans hb.symm)];exact h.nd
theorem Zqr {f:FuncId} {fn:Func} {c:Code} {args:List Value} {w:World} {v:Zb} {b:Nat} {T:TypeId} {cs:List Value} {R:Value→Zb→World→Prop} (hv:VIn v w) (hg:w.heap[b]? = some (.cells cs.toArray T (0,0))) (hn:v b=none)
  (hf:P.funcs[f]? = some fn) (hb:fn.body=some c) (hK:fn.ntmps=K) (hl:args.length≤K)
  (h:∀ a,St K ⟨w,[b]⟩ v (Z3c 0 args) [.box b T cs] v a w→c.wp P (bodyPost P fn λe w'=>∃ r v',e = .returned r∧ExtB ⟨w,[b]⟩ w'∧VStepB ⟨w,[b]⟩ v w' v'∧R r v' w') a w):ZPd P f args.toArray w v [b] R:=by
 refine calls_of_wp hf hb ?_;subst hK;refine h _ ?_;have h0:=St.enter (K:=fn.ntmps) hv args hl;refine⟨h0.size,h0.dfr,h0.fr,ExtB.refl ⟨w,[b]⟩,⟨Zb.le_refl _,hv,λ_ _ _=>rfl⟩,λe he=>?_,by simp[Loc.blk]⟩;rcases List.mem_singleton.1 he with rfl;exact⟨hg,λb' hb'=>by cases hb';exact⟨.inr (by simp),hn⟩⟩
theorem ZDn {w0:World} {b:Nat} {fn:Func} {R:Value→Zb→World→Prop} (hS:St K ⟨w0,[b]⟩ v0 σ ℓ v a w) {y:Value} (hr:(results fn a.tmps).run P w = .ok y w) (h:R y v w) :
  bodyPost P fn (λe w'=>∃ r v',e = .returned r∧ExtB ⟨w0,[b]⟩ w'∧VStepB ⟨w0,[b]⟩ v0 w' v'∧R r v' w') .ret a w :=
 ⟨hS.dfr,y,hr,y,v,rfl,hS.ext,hS.vst,h⟩
theorem St.boxAt (hS:St K w0 v0 σ ℓ v a w) {j b:Nat} {T:TypeId} {cs:List Value} (hj:ℓ[j]? = some (.box b T cs)):w.heap[b]? = some (.cells cs.toArray T (0,0))∧v b=none :=
 ⟨(hS.loc _ (mG hj)).1,((hS.loc _ (mG hj)).2 b rfl).2⟩
theorem ZHh (hS:St K w0 v0 σ ℓ v a w) {j n b sz off:Nat} {T:TypeId} {pre cs post:List Value} (hj:ℓ[j]? = some (.box b T (pre++cs++post))) (ho:off=pre.length) (hl:cs.length=n*sz) {i:Nat} {c:List Value} (e:(cs.drop (i*sz)).take sz=c) (hi:i<n)
  (k:Nat) (c':List Value) (e':(c.drop k).take c'.length=c') (hk:k+c'.length≤sz):WAt w b (off+i*sz+k) c':=by
 subst ho;have h1:i*sz+sz≤n*sz:=by rw[← Nat.succ_mul];exact mR _ hi
 refine hS.box hj (pre.length+i*sz+k) c' ?_;rw[aAq,List.drop_append,List.drop_of_length_le (by omega),List.nil_append,List.drop_append_of_le_length (by omega),List.take_append_of_le_length (by simp;omega)];rw[show pre.length+i*sz+k-pre.length=i*sz+k by omega,← List.drop_drop]
 conv=>rhs;rw[← e',← e]
 rw[List.drop_take,List.take_take,Nat.min_eq_left (by omega)]
theorem Zpz (hS:St K w0 v0 σ ℓ v a w) {t T:TypeId} {n nn b i off sz k:Nat} {agg:Bool} {z:Value} {c pre cs post:List Value} (ht:Sized P t n agg) (hz:cellsOf z c) (hn:c.length=n) (hi:ℓ[i]? = some (.box b T (pre++cs++post)))
  (ho:off=pre.length) (hl:cs.length=nn*sz) (hk:k<nn) (hsz:n=sz) (hp:c.all plain=true) :
  ∃ w',(∀ {d:Option Nat} {ty:TypeId} {pos:String} {aft:Array Edge} {g:Option (Nat×Bool)} {x y:Operand},ev σ x=some (.pointer (some ⟨b,off+k*sz,none⟩))→ev σ y=some z→(execOp a.eval ⟨d,.store t x y,ty,pos,aft,g⟩).run P w = .ok .skip w') ∧
   St K w0 v0 σ (ℓ.set i (.box b T (pre++(cs.take (0+k*sz)++c++cs.drop (0+k*sz+n))++post))) v a w':=by
 subst ho;subst hsz;have h1:k*n+n≤nn*n:=by rw[← Nat.succ_mul];exact mR _ hk
 obtain⟨w',hr,hS'⟩:=Z8h hS (off:=pre.length+k*n) (z:=z) (cs:=c) ht hz hn hi (by simp;omega) hp;refine⟨w',hr,?_⟩;have e:(pre++cs++post).take (pre.length+k*n)++c++(pre++cs++post).drop (pre.length+k*n+c.length)=pre++(cs.take (0+k*n)++c++cs.drop (0+k*n+n))++post:=by
  rw[hn,Nat.zero_add,aAq pre cs post,List.take_append,List.take_of_length_le (by omega),List.drop_append,List.drop_of_length_le (by omega),List.take_append_of_le_length (by omega),List.drop_append_of_le_length (by omega)];simp[Nat.add_sub_cancel_left,show pre.length+k*n+n-pre.length=k*n+n by omega]
 rw[← e];exact hS'
theorem seg_rel {α:Type} {A:Rep α} {b n cap off:Nat} {T:TypeId} {fr:Nat×Nat} {pre cs post:List Value} {l:List α} (hv:v b=some (.cells (pre++cs++post).toArray T fr)) (ho:off=pre.length) (hr:A.rels v cs l) (hn:n=l.length) (hc:n≤cap) (hm:cap≤maxLen) :
  (Zs A).rel v [.slice (some ⟨b,off,none⟩) n cap] l:=by
 subst hn ho;refine⟨_,cap,rfl,hc,hm,.inr ⟨b,pre.length,_,T,fr,rfl,hv,?_⟩⟩;have hl:=Z6a hr;have e:(((pre++cs++post).toArray.toList).drop pre.length).take (l.length*A.n)=cs:=by
  rw[List.toList_toArray,aAq,List.drop_left,List.take_append_of_le_length (by omega),List.take_of_length_le (by omega)]
 rw[e];exact hr
theorem St.lendSeg {α:Type} {A:Rep α} (h:St K w0 v0 σ ℓ v a w) {i b n cap off:Nat} {T:TypeId} {pre cs post:List Value} {l:List α} {ℓ':List Loc} (hi:ℓ[i]? = some (.box b T (pre++cs++post))) (hℓ:ℓ'=ℓ.eraseIdx i) (ho:off=pre.length) (hr:A.rels v cs l) (hn:n=l.length) (hc:n≤cap∧cap≤maxLen) :
  ∃ v' o,v.le v'∧v' b=some o∧St K w0 v0 σ ℓ' v' a w∧(Loc.box b T (pre++cs++post)).fits o∧v b=none∧(w0.wd.heap.size≤b∨b ∈ w0.lent)∧(Zs A).rel v' [.slice (some ⟨b,off,none⟩) n cap] l:=by
 obtain⟨v',o,h1,h2,h3,h4,h5,h6,h7,h8⟩:=h.lendOwn hi rfl hℓ;refine⟨v',o,h1,h2,h3,h4,h7,h8,?_⟩;have e:o = .cells (pre++cs++post).toArray T (0,0):=by
  have:w.heap[b]? = _:=h5;rw[h6]at this;exact Option.some.inj this
 exact seg_rel (by rw[h2,e]) ho (ZR h1 hr) hn hc.1 hc.2
theorem St.lendSlice {α:Type} {A:Rep α} (h:St K w0 v0 σ ℓ v a w) {i b n cap sz:Nat} {T:TypeId} {cs:List Value} {l:List α} {ℓ':List Loc} (hi:ℓ[i]? = some (.own (some b) T sz n cap cs)) (hℓ:ℓ'=ℓ.eraseIdx i) (hsz:sz=A.n) (hr:A.rels v cs l) (hn:n=l.length) :
  ∃ v' o,v.le v'∧v' b=some o∧St K w0 v0 σ ℓ' v' a w∧(Loc.own (some b) T sz n cap cs).fits o∧v b=none∧(w0.wd.heap.size≤b∨b ∈ w0.lent)∧(Zs A).rel v' [.slice (mkA (some b)) n cap] l:=by
 subst hsz;obtain⟨v',o,h1,h2,h3,h4,h5,h6,h7,h8⟩:=h.lendOwn hi rfl hℓ;refine⟨v',o,h1,h2,h3,h4,h7,h8,?_⟩;obtain⟨hcl,cur,hg,hnc,hcx,hcs,htake⟩:=h5;rw[h6]at hg
 cases hg
 subst hn;refine⟨_,cap,rfl,hnc,hcx,.inr ⟨b,0,cur,T,(0,0),rfl,h2,?_⟩⟩;rw[List.drop_zero,htake];exact ZR h1 hr
theorem Zlo {ops:Array Oper} {Q:Exit→Act→World→Prop} {rest:List Oper} {o:Oper} {d:Nat} {f:FuncId} {args:Array Value} {b:Nat} {R:Value→Zb→World→Prop} {i:Nat} {e:Loc} (hS:St K w0 v0 σ ℓ v a w) (hw:Region.wanted o (yielded ops a.tmps)=true) (hd:o.dst=some d) (hK:d<K)
  (hrun:(execOp a.eval o).run P w = .ok (.enter f args) w) (hi:ℓ[i]? = some e) (hb:e.blk=some b) (hc:ZPd P f args w v [b] R)
  (h:∀ x v' a w,v.le v'→R x v' w→(∀ e':Loc,e'.blk=some b→e'.holds w→v' b=none→St K w0 v0 ((d,x) :: σ) (ℓ.set i e') v' a w)→wpList P ops Q rest a w):wpList P ops Q (o :: rest) a w :=
 ZQc hw (ZXc hrun (Calls.mono hc λen w' ⟨r,v',e1,e2,e3,e4⟩=>⟨r,e1,by
  rw[hd]
  exact h r v' _ _ e3.le e4 λe' hb' hh hn=>(hS.afterL hi hb hb' e2 e3 hh hn).put r hK⟩))
theorem Zxv (hS:St K w0 v0 σ ℓ v a w) {i b n cap sz lo hi:Nat} {T:TypeId} {cs:List Value} (hi':ℓ[i]? = some (.own (some b) T sz n cap cs)) (h1:lo≤hi) (h2:hi≤n) :
  ∃ pre post,w.heap[b]? = some (.cells (pre++((cs.take (hi*sz)).drop (lo*sz))++post).toArray T (0,0))∧v b=none∧lo*sz=pre.length∧hi-lo≤cap-lo∧cap-lo≤maxLen ∧
   ∀ (w':World) (cs':List Value),cs'.length=(hi-lo)*sz→w'.heap[b]? = some (.cells (pre++cs'++post).toArray T (0,0))→(Loc.own (some b) T sz n cap (cs.take (lo*sz)++cs'++cs.drop (hi*sz))).holds w':=by
 obtain⟨⟨hcl,cur,hg,hnc,hcx,hcs,htake⟩,hv⟩:=hS.loc _ (mG hi');have m1:lo*sz≤hi*sz:=mR _ h1;have m2:hi*sz≤n*sz:=mR _ h2;have m3:n*sz≤cap*sz:=mR _ hnc;have hlen:cur.toList.length=cap*sz:=by simpa using hcs
 have ecs:cs=cur.toList.take (n*sz):=htake.symm;have e1:(cs.take (hi*sz)).drop (lo*sz)=(cur.toList.take (hi*sz)).drop (lo*sz):=by rw[ecs,List.take_take,Nat.min_eq_left m2]
 have e2:cur.toList.take (lo*sz)++(cs.take (hi*sz)).drop (lo*sz)++cur.toList.drop (hi*sz)=cur.toList:=by
  rw[e1];have:(cur.toList.take (hi*sz)).take (lo*sz)=cur.toList.take (lo*sz):=by rw[List.take_take,Nat.min_eq_left m1]
  rw[← this,List.take_append_drop,List.take_append_drop]
 refine⟨cur.toList.take (lo*sz),cur.toList.drop (hi*sz),by rw[e2];simpa using hg,(hv b rfl).2,by simp;omega,by omega,by omega,λw' cs' hl hg'=>?_⟩;have hsub:(hi-lo)*sz=hi*sz-lo*sz:=Nat.sub_mul _ _ _;rw[hsub]at hl;have hcsl:cs.length=n*sz:=hcl;have key:∀ p q r c:Nat,p≤q→q≤r→r≤c→cs'.length=q-p→cur.toList.length=c→cs=cur.toList.take r →
   (cs.take p++cs'++cs.drop q).length=r∧(cur.toList.take p++cs'++cur.toList.drop q).length=c∧(cur.toList.take p++cs'++cur.toList.drop q).take r=cs.take p++cs'++cs.drop q:=by
  intro p q r c hp hq hr hl hc e;have hp':(cur.toList.take p).length=p:=by rw[List.length_take,Nat.min_eq_left (by omega)]
  refine⟨?_,?_,?_⟩
  ·rw[e,List.take_take,Nat.min_eq_left (by omega),lA,lA,hp',List.length_drop,List.length_take,Nat.min_eq_left (by omega)];omega
  ·rw[lA,lA,hp',List.length_drop];omega
  ·rw[e,List.take_take,Nat.min_eq_left (by omega),List.take_append,List.take_of_length_le (by rw[lA,hp'];omega),List.drop_take,lA,hp'];congr 2;omega
 obtain⟨k1,k2,k3⟩:=key _ _ _ _ m1 m2 m3 hl hlen ecs;exact⟨k1,_,hg',hnc,hcx,by simpa using k2,by rw[List.toList_toArray];exact k3⟩
end Go.Eng
namespace Go.Eng
open Go.RowKit
variable {P:Program} {K:Nat} {w0:Base} {v0:Zb} {σ:List (Nat×Value)} {ℓ:List Loc} {v:Zb} {a:Act} {w:World}
variable {d:Option Nat} {ty:TypeId} {pos:String} {aft:Array Edge} {g:Option (Nat×Bool)}
theorem Z7v {t e ty:TypeId} {sz bytes:Nat} {z:Value} (E:Elem P t e sz bytes z) {n cap c:Nat} {q:Option Addr} (h:n≤cap) (w:World) :
  (Builtin.append_ #[t,t] ty #[.slice q n cap,.slice none 0 c]).run P w = .ok (.slice q n cap) w:=by
 obtain⟨inf,hinf,hz,hs,hby⟩:=info_parts E.info
 cases q <;> simp[Builtin.append_,run_underlying E.ty,sizeOf,typeInfo,hinf,Builtin.lenOf,Builtin.firstCells,h,storeCells]
theorem ZDe {α:Type} {A:Rep α} {t e ty:TypeId} {bytes:Nat} {z:Value} (E:Elem P t e A.n bytes z) (hS:St K w0 v0 σ ℓ v a w) {i n cap:Nat} {b:Option Nat} {cs:List Value} (hi:ℓ[i]? = some (.own b e A.n n cap cs))
  {q:Option Addr} {m c:Nat} {l:List α} (hr:(Zs A).rel v [.slice q m c] l) {n':Nat} (hn':n'=n+m) (hbytes:n'*bytes≤140737488355328) (hpos:0<bytes) :
  ∃ b' cap' cs2 w',(Builtin.append_ #[t,t] ty #[.slice (mkA b) n cap,.slice q m c]).run P w = .ok (.slice (mkA b') n' cap') w'∧St K w0 v0 σ (ℓ.set i (.own b' e A.n n' cap' (cs++cs2))) v a w'∧A.rels v cs2 l:=by
 obtain⟨q',c',eq,h1,h2,h3⟩:=hr
 cases eq
 have hrow:n≤cap:=by
  have:=(hS.loc _ (mG hi)).1
  cases b with
  | none=>obtain⟨h,_⟩:=this;omega
  | some b=>obtain⟨_,_,_,h,_⟩:=this;exact h
 cases q with
 | none =>
  have hl:l=[]:=by
   rcases h3 with h | ⟨_,_,_,_,_,e,_⟩
   ·exact h
   ·cases e
  subst hl;have hn2:n'=n:=by simpa using hn'
  rw[hn2];have hset:ℓ.set i (.own b e A.n n cap cs)=ℓ:=by
   apply List.ext_getElem?;intro j;by_cases hj:i=j
   ·subst hj;have hlt:i<ℓ.length:=(List.getElem?_eq_some_iff.1 hi).1;rw[List.getElem?_set_self hlt,hi]
   ·rw[List.getElem?_set_ne hj]
  refine⟨b,cap,[],w,Z7v E hrow w,?_,rfl⟩;rw[List.append_nil];show St K w0 v0 σ (ℓ.set i (.own b e A.n n cap cs)) v a w;rw[hset];exact hS
 | some ad =>
  by_cases hl0:l=[]
  ·subst hl0;obtain⟨b',cap',w',hr',hS'⟩:=Z0j (ty:=ty) E hS hi (ad:=ad) (m:=0) (c:=c) (news:=[]) (by simp) (by simp) rfl (n':=n') (by simpa using hn') hbytes hpos;exact⟨b',cap',[],w',hr',hS',rfl⟩
  ·rcases h3 with h | ⟨b1,off,cc,T,fr,e1,hb,hrel⟩
   ·exact absurd h hl0
   ·cases e1
    have hlen:=Z6a hrel;obtain⟨b',cap',w',hr',hS'⟩:=Z0j (ty:=ty) E hS hi (ad:=⟨b1,off,none⟩) (m:=l.length) (c:=c) (news:=(cc.toList.drop off).take (l.length*A.n)) hlen
     (λj u hj=>by
      have hw:WAt w b1 off ((cc.toList.drop off).take (l.length*A.n)):=⟨cc,T,fr,hS.vin _ _ hb,by rw[hlen]⟩;rw[ZLb];exact hw.cell hj) (Zfj hrel) hn' hbytes hpos
    exact⟨b',cap',_,w',hr',hS',hrel⟩
theorem ZSw (hS:St K w0 v0 σ ℓ v a w) {j n cap b sz:Nat} {T t e:TypeId} {cs:List Value} (hj:ℓ[j]? = some (.own (some b) T sz n cap cs)) (ht:Zaf P t e sz) {p r:Int} (h0:0≤p) (h1:p<r) (h2:r≤n)
  {d:Option Nat} {ty:TypeId} {pos:String} {aft:Array Edge} {g:Option (Nat×Bool)} {x lo hi:Operand} {k k':IntKind} (ex:ev σ x=some (.slice (mkA (some b)) n cap)) (el:ev σ lo=some (.int k p)) (eh:ev σ hi=some (.int k' r)) :
  (execOp a.eval ⟨d,.slice t x (some lo) (some hi) none,ty,pos,aft,g⟩).run P w = .ok (.value (.slice (some ⟨b,p.toNat*sz,none⟩) (r-p).toNat (cap-p.toNat))) w:=by
 obtain⟨_,cur,_,hnc,_⟩:=(hS.loc _ (mG hj)).1;have e1:(r-p).toNat=r.toNat-p.toNat:=by omega
 have hb:0≤r∧r≤cap:=by omega
 have hb':0≤p∧p≤(r.toNat:Int):=by omega
 have hb'':p≤max r 0:=by omega
 have hne:¬ cap=p.toNat:=by omega
 rw[e1];simp[execOp,Instr.sliceAt,Instr.slice,Instr.sliceBounds,Instr.sliceBound,asIntOf,hS.eval ex,hS.eval el,hS.eval eh,ht.1,ht.2,hb,hb',hb'',hne,mkA,ZLb]
def cutP {α:Type} (l:List α) (lo hi:Int):Option (List α):=if 0≤lo∧lo<hi∧hi≤l.length then some ((l.take hi.toNat).drop lo.toNat) else none
theorem Zrc {α:Type} {l y:List α} {lo hi:Int} (h:cutP l lo hi=some y):0≤lo∧lo<hi∧hi≤l.length∧y=(l.take hi.toNat).drop lo.toNat∧(hi-lo).toNat=y.length∧lo.toNat≤hi.toNat∧hi.toNat≤l.length:=by
 unfold cutP at h;split at h
 ·rename_i hh
  cases h
  refine⟨hh.1,hh.2.1,hh.2.2,rfl,?_,by omega,by omega⟩;rw[List.length_drop,List.length_take,Nat.min_eq_left (by omega)];omega
 ·cases h
theorem Z5y {α:Type} {A:Rep α} {v:Zb} {cs:List Value} {l y:List α} {p r sz:Nat} (h:A.rels v cs l) (hsz:sz=A.n) (e:y=(l.take r).drop p):A.rels v ((cs.take (r*sz)).drop (p*sz)) y:=by
 subst hsz;subst e;exact Z5f p (Zeh r h)
theorem Zpx {α:Type} {A:Rep α} {v:Zb} {cs cs':List Value} {l y:List α} {p r sz:Nat} (h:A.rels v cs l) (h':A.rels v cs' y) (hsz:sz=A.n):A.rels v (cs.take (p*sz)++cs'++cs.drop (r*sz)) (l.take p++y++l.drop r):=by
 subst hsz;exact Zuc (Zuc (Zeh p h) h') (Z5f r h)
theorem Zfz {α:Type} {l y:List α} {p r n:Nat} (hn:n=l.length) (hp:p≤r) (hr:r≤l.length) (hy:r-p=y.length):n=(l.take p++y++l.drop r).length:=by
 simp;omega
theorem ZIu {p r:Int} {cap:Nat} (h0:0≤p) (h1:p<r) (hc:r.toNat-p.toNat≤cap-p.toNat):(r-p).toNat≤cap-p.toNat:=by omega
end Go.Eng
namespace Go.Eng
open Go.RowKit
variable {P:Program} {K:Nat} {w0:Base} {v0:Zb} {σ:List (Nat×Value)} {ℓ:List Loc} {v:Zb} {a:Act} {w:World}
variable {d:Option Nat} {ty:TypeId} {pos:String} {aft:Array Edge} {g:Option (Nat×Bool)}
theorem St.boxOwn {b:Nat} {T:TypeId} {cs:List Value} (h:St K w0 v0 σ (.box b T cs :: ℓ) v a w) (sz n:Nat) (e:cs.length=n*sz) (hn:n≤maxLen):St K w0 v0 σ (.own (some b) T sz n n cs :: ℓ) v a w:=by
 refine⟨h.size,h.dfr,h.fr,h.ext,h.vst,λx hx=>?_,h.nd⟩;rcases List.mem_cons.1 hx with rfl | hx
 ·obtain⟨h1,h2⟩:=h.loc _ (List.mem_cons_self ..);exact⟨⟨e,cs.toArray,h1,Nat.le_refl _,hn,by simpa using e,by simp[← e]⟩,h2⟩
 ·exact h.loc x (List.mem_cons_of_mem _ hx)
def ZMg (P:Program) (t:TypeId) (n sz:Nat):Prop:=∃ e,(∀ w,(underlying t).run P w = .ok (.array n e) w)∧∀ w,(sizeOf e).run P w = .ok sz w
theorem Zyq (hS:St K w0 v0 σ ℓ v a w) {t:TypeId} {n sz b o:Nat} {x i:Operand} {k:IntKind} {j:Int} (ht:ZMg P t n sz) (e:ev σ x=some (.pointer (some ⟨b,o,none⟩))) (ei:ev σ i=some (.int k j)) (h0:0≤j) (h1:j<n) :
  (execOp a.eval ⟨d,.indexAddr t x i,ty,pos,aft,g⟩).run P w = .ok (.value (.pointer (some ⟨b,o+j.toNat*sz,none⟩))) w:=by
 obtain⟨et,h2,h3⟩:=ht;simp[execOp,Instr.indexAt,Instr.sureAddr,hS.eval e,hS.eval ei,asIntOf,h2,h3,h0,h1,ZLb]
def ZHi (b n lo:Nat):Value:=.slice (some (if n=lo then ⟨b,0,none⟩ else ⟨b,0+lo*1,none⟩)) (n-lo) (n-lo)
theorem Zjx (hS:St K w0 v0 σ ℓ v a w) {t:TypeId} {n b:Nat} {x lo:Operand} {k:IntKind} {j:Int} (ht:ZMg P t n 1) (e:ev σ x=some (.pointer (some ⟨b,0,none⟩))) (ei:ev σ lo=some (.int k j)) (h0:0≤j) (h1:j≤n) :
  (execOp a.eval ⟨d,.slice t x (some lo) none none,ty,pos,aft,g⟩).run P w = .ok (.value (ZHi b n j.toNat)) w:=by
 obtain⟨et,h2,h3⟩:=ht;simp[execOp,Instr.sliceAt,Instr.sureAddr,hS.eval e,hS.eval ei,h2,h3,h0,h1,ZLb,Instr.sliceBounds,run_sliceBound,ZHi]
def bytesOf (l:List Int):List UInt8:=l.map λn=>UInt8.ofNat n.toNat
theorem ZNo {k:IntKind} {v:Zb}:∀ {cs:List Value} {l:List Int},Rep.rels (Zd k) v cs l→cs=l.map (Value.int k)
 | _,[],h=>h
 | _,x :: l,h=>by
  obtain⟨c1,c2,rfl,⟨h1,_⟩,h2⟩:=h
  rw[ZNo h2,h1];rfl
theorem Zvu (hS:St K w0 v0 σ ℓ v a w) {src dst e T:TypeId} {x:Operand} {j b n lo:Nat} {cs:List Value} {l:List Int} (hj:ℓ[j]? = some (.own (some b) T 1 n n cs)) (hr:Rep.rels (Zd .u8) v cs l) (hn:n=l.length) (hlo:lo≤n)
  (hx:ev σ x=some (ZHi b n lo)) (hs:P.underlying src=some (.slice e)) (he:P.underlying e=some (.int .u8)) (hd:P.underlying dst=some .string) :
  (execOp a.eval ⟨d,.convert src dst x,ty,pos,aft,g⟩).run P w = .ok (.value (.string (Zg (bytesOf (l.drop lo))))) w:=by
 have hcs:=ZNo hr;have key:∀ q:Nat,(q=0+lo*1∨n=lo)→(convert src dst (.slice (some ⟨b,q,none⟩) (n-lo) (n-lo))).run P w = .ok (.string (Zg (bytesOf (l.drop lo)))) w:=by
  intro q hq;have:=run_convert_bytes_arg (P:=P) w src e hs he b q (n-lo) (n-lo) (l.drop lo) (by simp[hn]) (λi hi=>by
   rcases hq with rfl | hq
   ·have hil:lo+i<l.length:=by omega
    have h1:=Z0m hS hj (lo+i) (.int .u8 l[lo+i]) (by rw[hcs];simp[hil]);rw[ZLb]at h1;rw[show 0+lo*1+i=0+(lo+i) by omega,h1];simp[List.getD,List.getElem?_drop,hil]
   ·omega) dst hd
  exact this
 simp only[execOp,hS.eval hx,ZHi];by_cases h:n=lo
 ·rw[iP h];have h1:=key 0 (.inr h);simp[h1]
 ·rw[iN h];have h1:=key _ (.inl rfl);simp only[Sem.run_bind,h1];rfl
theorem Znu (l:List Int):(bytesOf l).length=l.length:=by simp[bytesOf]
end Go.Eng
namespace Go.Eng
open Go.RowKit
def rPtr {α:Type} (A:Rep α):Rep α where
 n:=1
 agg:=false
 rel v cs x:=∃ b o c,cs=[.pointer (some ⟨b,o,none⟩)]∧At v b o c∧A.rel v c x
 len h:=by obtain⟨_,_,_,rfl,_⟩:=h;rfl
 mono hv h:=by obtain⟨b,o,c,e,h1,h2⟩:=h;exact⟨b,o,c,e,h1.mono hv,A.mono hv h2⟩
 flat h:=by obtain⟨_,_,_,rfl,_⟩:=h;rfl
theorem rPtr_mk {α:Type} {A:Rep α} {v:Zb} {b o:Nat} {c:List Value} {x:α} (h:At v b o c) (k:A.rel v c x):(rPtr A).rel v [.pointer (some ⟨b,o,none⟩)] x:=⟨b,o,c,rfl,h,k⟩
variable {P:Program} {K:Nat} {w0:Base} {v0:Zb} {σ:List (Nat×Value)} {ℓ:List Loc} {v:Zb} {a:Act} {w:World}
theorem St.pubVar (h:St K w0 v0 σ ℓ v a w) {i b:Nat} {T:TypeId} {cs:List Value} {ℓ':List Loc} (hi:ℓ[i]? = some (.box b T cs)) (hℓ:ℓ'=ℓ.eraseIdx i):∃ v',v.le v'∧St K w0 v0 σ ℓ' v' a w∧At v' b 0 cs:=by
 obtain⟨v',h1,h2,h3⟩:=h.pubBox hi hℓ;exact⟨v',h1,h2,at_box h3 0 cs (by simp)⟩
end Go.Eng
namespace Go.Eng
open Go.RowKit
variable {P:Program} {K:Nat} {w0:Base} {v0:Zb} {σ:List (Nat×Value)} {ℓ:List Loc} {v:Zb} {a:Act} {w:World}
variable {d:Option Nat} {ty:TypeId} {pos:String} {aft:Array Edge} {g:Option (Nat×Bool)}
theorem Zas (hS:St K w0 v0 σ ℓ v a w) {x:Operand} {f:FuncId} {xs:Array Operand} {ats:Array TypeId} (vals caps:List Value) (hf:ZF P f) (e:ev σ x=some (.func (.func f) #[] caps.toArray))
  (h:xs.toList.map (ev σ)=vals.map some):(execOp a.eval ⟨d,.call ⟨.value x,xs,ats⟩,ty,pos,aft,g⟩).run P w = .ok (.enter f (vals++caps).toArray) w:=by
 have:=Z0r (d:=d) (ty:=ty) (pos:=pos) (aft:=aft) (g:=g) (ats:=ats) hS hf e h
 simpa using this
end Go.Eng
namespace Go.Eng
open Go.RowKit
variable {P:Program} {K:Nat} {w0:Base} {v0:Zb} {σ:List (Nat×Value)} {ℓ:List Loc} {v:Zb} {a:Act} {w:World}
variable {d:Option Nat} {ty:TypeId} {pos:String} {aft:Array Edge} {g:Option (Nat×Bool)}
theorem Z5r (hS:St K w0 v0 σ ℓ v a w) {t:TypeId} {n sz b o:Nat} {x i:Operand} {k:IntKind} {j:Int} (ht:ZMg P t n sz) (e:ev σ x=some (.pointer (some ⟨b,o,none⟩))) (ei:ev σ i=some (.int k j)) (h0:0≤j) (h1:j<n) (q:Nat) (hq:o+j.toNat*sz=q) :
  (execOp a.eval ⟨d,.indexAddr t x i,ty,pos,aft,g⟩).run P w = .ok (.value (.pointer (some ⟨b,q,none⟩))) w:=by
 rw[Zyq hS ht e ei h0 h1,hq]
end Go.Eng
namespace Go.Eng
open Go.RowKit
theorem zl {a b:Nat} (h:Nat.ble a b=true:=by rfl):a≤b:=lB h
theorem wn {o:Oper} {y:Nat→Option Bool} (h:o.guard=none:=by rfl):Region.wanted o y=true:=ZRa h
section
variable {P:Program} {K:Nat} {w0:Base} {v0:Zb} {σ σ':List (Nat×Value)} {ℓ:List Loc} {v:Zb} {a:Act} {w:World}
variable {ops:Array Oper} {Q:Exit→Act→World→Prop} {rest:List Oper}
theorem ZLo {t:Nat} {x:Value}:∀ {σ:List (Nat×Value)},look σ t=some x→(t,x) ∈ σ
 | [],h=>by cases h
 | (k,y) :: r,h=>by
  by_cases hk:k=t
  ·subst hk;rw[Z4e rfl]at h;cases h;exact List.mem_cons_self ..
  ·rw[ZIg hk]at h;exact List.mem_cons_of_mem _ (ZLo h)
theorem St.fr' (h:St K w0 v0 σ ℓ v a w) (k:σ'.map (λp=>look σ p.1)=σ'.map (λp=>some p.2)):St K w0 v0 σ' ℓ v a w :=
 h.frame λt x e=>by
  have hm:=ZLo e
  have:∀ l:List (Nat×Value),l.map (λp=>look σ p.1)=l.map (λp=>some p.2)→(t,x) ∈ l→look σ t=some x:=by
   intro l
   induction l with
   | nil=>intro _ h;cases h
   | cons p l ih =>
    intro hl hp;simp only[List.map_cons,List.cons.injEq]at hl;rcases List.mem_cons.1 hp with rfl | hp
    ·exact hl.1
    ·exact ih hl.2 hp
  exact this σ' k hm
theorem ov {o:Oper} {d:Nat} {x:Value} (hS:St K w0 v0 σ ℓ v a w) (hc:(o.dst,o.guard,Nat.ble (d+1) K)=(some d,none,true)) (hrun:(execOp a.eval o).run P w = .ok (.value x) w)
  (h:∀ a,St K w0 v0 ((d,x) :: σ) ℓ v a w→wpList P ops Q rest a w):wpList P ops Q (o :: rest) a w :=
 op_v hS (ZRa (Prod.mk.inj (Prod.mk.inj hc).2).1) (Prod.mk.inj hc).1 (lB (Prod.mk.inj (Prod.mk.inj hc).2).2) hrun h
theorem mv {d:Nat} {x:Operand} {y:Value} {ty:TypeId} {pos:String} {aft:Array Edge} (hS:St K w0 v0 σ ℓ v a w) (hc:(ev σ x,Nat.ble (d+1) K)=(some y,true))
  (h:∀ a,St K w0 v0 ((d,y) :: σ) ℓ v a w→wpList P ops Q rest a w):wpList P ops Q (⟨some d,.move x,ty,pos,aft,none⟩ :: rest) a w :=
 op_v hS (ZRa rfl) rfl (lB (Prod.mk.inj hc).2) (Z3 hS (Prod.mk.inj hc).1) h
theorem mw {d:Nat} {x:Operand} {y:Value} {ty:TypeId} {pos:String} {aft:Array Edge} (hS:St K w0 v0 σ ℓ v a w) (hc:(ev σ x,Nat.ble (d+1) K)=(some y,true))
  (h:∀ a,St K w0 v0 ((d,y) :: σ) ℓ v a w→wpList P ops Q rest a w):wpList P ops Q (⟨some d,.assign x,ty,pos,aft,none⟩ :: rest) a w :=
 op_v hS (ZRa rfl) rfl (lB (Prod.mk.inj hc).2) (Z9d hS (Prod.mk.inj hc).1) h
theorem ob {d T:Nat} {x:Operand} {y:Value} {cs:List Value} {ty:TypeId} {pos:String} {aft:Array Edge} (hS:St K w0 v0 σ ℓ v a w) (hc:(ev σ x,Nat.ble (d+1) K)=(some y,true)) (hy:y.cells=cs.toArray)
  (h:∀ b a w,St K w0 v0 ((d,.pointer (some ⟨b,0,none⟩)) :: σ) (.box b T cs :: ℓ) v a w→wpList P ops Q rest a w):wpList P ops Q (⟨some d,.box T x,ty,pos,aft,none⟩ :: rest) a w :=
 Z0h hS (ZRa rfl) rfl (lB (Prod.mk.inj hc).2) (by rw[← hy];exact Zyo hS (Prod.mk.inj hc).1) h
theorem sr {ops:Array Oper} {n:Nat} {y:Code} (h:wpList P ops (Exit.then (y.wp P Q) Q) ops.toList a w):(Code.seq (.region n ops false) y).wp P Q a w:=wp_seq (wp_region_lit h)
theorem oe {y:Code} (h:y.wp P Q a w):wpList P ops (Exit.then (y.wp P Q) Q) [] a w:=Zx (Zh h)
theorem rf {l:List Oper} {fl E:Array Bool} {o:Oper} {d:Nat} {x:Value} (hops:ops=l.toArray) (hF:OkF ops fl) (f:Nat) (hi:l[f]? = some o) (hc:(fl.getD f false&&(Region.ready .any l.toArray E).contains f)=true) (h3:(o.dst,o.guard,Nat.ble (d+1) K)=(some d,none,true))
  (hS:St K w0 v0 σ ℓ v a w) (hrun:(execOp a.eval o).run P w = .ok (.value x) w) (h:∀ a,St K w0 v0 ((d,x) :: σ) ℓ v a w→Rg P ops Q fl (E.setIfInBounds f true) a w):Rg P ops Q fl E a w :=
 ZEz hops hF f hi ⟨(Bool.and_eq_true_iff.1 hc).1,(Bool.and_eq_true_iff.1 hc).2,rfl⟩ (Prod.mk.inj h3).1 (lB (Prod.mk.inj (Prod.mk.inj h3).2).2) hS (ZRa (Prod.mk.inj (Prod.mk.inj h3).2).1) hrun h
def ZJe (l:List Oper) (fl E:Array Bool) (p:Nat) (A J:List Nat):Bool :=
 Zld l.toArray p [] A&&((List.range l.length).all λj=>!(E.getD j false&&fl.getD j false) || A.contains j || J.contains j)
theorem ZMm {l:List Oper} {fl E:Array Bool} {p:Nat} {A J:List Nat} (h:ZJe l fl E p A J=true):okP l fl E (E.setIfInBounds p true) p A J=true:=by
 unfold okP;unfold ZJe at h;rw[h];simp
theorem nv {l:List Oper} {fl E:Array Bool} {p d:Nat} {o:Oper} {x:Value} (A J:List Nat) (hops:ops=l.toArray) (hi:l[p]? = some o) (hP:ZJe l fl E p A J=true) (h3:(o.dst,o.guard,Nat.ble (d+1) K)=(some d,none,true)) (hS:St K w0 v0 σ ℓ v a w)
  (hrun:(execOp a.eval o).run P w = .ok (.value x) w) (h:∀ a,St K w0 v0 ((d,x) :: σ) ℓ v a w→Z1b P ops l a w J∧Rg P ops Q fl (E.setIfInBounds p true) a w):Next P ops Q fl E a w p :=
 nx_v A J hops hi (ZMm hP) hS (ZRa (Prod.mk.inj (Prod.mk.inj h3).2).1) (Prod.mk.inj h3).1 (lB (Prod.mk.inj (Prod.mk.inj h3).2).2) hrun h
theorem py {l:List Oper} {J:List Nat} {j d:Nat} {o:Oper} {x:Value} (hS:St K w0 v0 σ ℓ v a w) (hi:l[j]? = some o) (h3:(o.dst,look σ d,o.guard)=(some d,some x,none)) (hrun:(execOp a.eval o).run P w = .ok (.value x) w)
  (r:Z1b P ops l a w J):Z1b P ops l a w (j :: J):=Z0t hS hi (Prod.mk.inj h3).1 (Prod.mk.inj (Prod.mk.inj h3).2).1 (ZRa (Prod.mk.inj (Prod.mk.inj h3).2).2) hrun r
theorem Z5u {l:List Oper} {fl E:Array Bool} {p d:Nat} {o:Oper} {f:FuncId} {args:Array Value} {R:Value→Zb→Prop} (A J:List Nat) (hops:ops=l.toArray) (hi:l[p]? = some o) (hP:ZJe l fl E p A J=true) (hS:St K w0 v0 σ ℓ v a w) (hw:Region.wanted o (yielded ops a.tmps)=true) (hd:o.dst=some d) (hK:d<K)
  (hrun:(execOp a.eval o).run P w = .ok (.enter f args) w) (hc:Ret P f args w v R)
  (h:∀ x v' a w,v.le v'→R x v'→St K w0 v0 ((d,x) :: σ) ℓ v' a w→Z1b P ops l a w J∧Rg P ops Q fl (E.setIfInBounds p true) a w):Next P ops Q fl E a w p:=nx_call A J hops hi (ZMm hP) hS hw hd hK hrun hc h
theorem Znx {l:List Oper} {fl E:Array Bool} {p:Nat} {o:Oper} {w':World} (A J:List Nat) (hops:ops=l.toArray) (hi:l[p]? = some o) (hP:ZJe l fl E p A J=true) (hw:Region.wanted o (yielded ops a.tmps)=true) (hd:o.dst=none)
  (hrun:(execOp a.eval o).run P w = .ok .skip w') (h:Z1b P ops l a w' J∧Rg P ops Q fl (E.setIfInBounds p true) a w'):Next P ops Q fl E a w p:=nx_skip A J hops hi (ZMm hP) hw hd hrun h
end
theorem len3 {α:Type} (A:Rep α) {v:Zb} {cs:List Value} {x:α} (h:A.rel v cs x) (hn:A.n=3:=by rfl):∃ a b c,cs=[a,b,c]:=by
 have hl:=A.len h;rw[hn]at hl
 match cs,hl with
 | [a,b,c],_=>exact⟨a,b,c,rfl⟩
end Go.Eng
namespace Go.Eng
open Go.RowKit
section
variable {P:Program} {K:Nat} {w0:Base} {v0:Zb} {σ σ':List (Nat×Value)} {ℓ:List Loc} {v:Zb} {a:Act} {w:World}
variable {ops:Array Oper} {Q:Exit→Act→World→Prop} {rest:List Oper}
theorem rfa {l:List Oper} {fl E:Array Bool} {o:Oper} {d:Nat} {x:Value} (hops:ops=l.toArray) (hF:OkF ops fl) (f:Nat) (hi:l[f]? = some o) (h3:(o.dst,o.guard,Nat.ble (d+1) K)=(some d,none,true))
  (hS:St K w0 v0 σ ℓ v a w) (hrun:(execOp a.eval o).run P w = .ok (.value x) w) (h:∀ a,St K w0 v0 ((d,x) :: σ) ℓ v a w→Rg P ops Q fl (E.setIfInBounds f true) a w)
  (hc:(fl.getD f false&&(Region.ready .any l.toArray E).contains f)=true:=by kernel_rfl):Rg P ops Q fl E a w:=rf hops hF f hi hc h3 hS hrun h
theorem go1 {l:List Oper} {fl E:Array Bool} (hops:ops=l.toArray) (hF:OkF ops fl) (p:Nat) (h:Next P ops Q fl E a w p) (hr:Region.ready .any l.toArray E=[p]:=by kernel_rfl):Rg P ops Q fl E a w:=rg_go1 hops hF p hr h
theorem fin1 {l:List Oper} {fl E:Array Bool} (hops:ops=l.toArray) (hF:OkF ops fl) (h:Q .normal a w) (hr:Region.ready .any l.toArray E=[]:=by kernel_rfl):Rg P ops Q fl E a w:=rg_fin hops hF hr h
theorem nva {l:List Oper} {fl E:Array Bool} {p d:Nat} {o:Oper} {x:Value} (A J:List Nat) (hops:ops=l.toArray) (hi:l[p]? = some o) (h3:(o.dst,o.guard,Nat.ble (d+1) K)=(some d,none,true)) (hS:St K w0 v0 σ ℓ v a w)
  (hrun:(execOp a.eval o).run P w = .ok (.value x) w) (h:∀ a,St K w0 v0 ((d,x) :: σ) ℓ v a w→Z1b P ops l a w J∧Rg P ops Q fl (E.setIfInBounds p true) a w) (hP:ZJe l fl E p A J=true:=by kernel_rfl):Next P ops Q fl E a w p:=nv A J hops hi hP h3 hS hrun h
theorem nxc {l:List Oper} {fl E:Array Bool} {p d:Nat} {o:Oper} {f:FuncId} {args:Array Value} {R:Value→Zb→Prop} (A J:List Nat) (hops:ops=l.toArray) (hi:l[p]? = some o) (hS:St K w0 v0 σ ℓ v a w) (hd:o.dst=some d)
  (hrun:(execOp a.eval o).run P w = .ok (.enter f args) w) (hc:Ret P f args w v R)
  (h:∀ x v' a w,v.le v'→R x v'→St K w0 v0 ((d,x) :: σ) ℓ v' a w→Z1b P ops l a w J∧Rg P ops Q fl (E.setIfInBounds p true) a w)
  (hP:ZJe l fl E p A J=true:=by kernel_rfl) (hw:o.guard=none:=by rfl) (hK:Nat.ble (d+1) K=true:=by rfl):Next P ops Q fl E a w p:=Z5u A J hops hi hP hS (ZRa hw) hd (lB hK) hrun hc h
theorem nxs {l:List Oper} {fl E:Array Bool} {p:Nat} {o:Oper} {w':World} (A J:List Nat) (hops:ops=l.toArray) (hi:l[p]? = some o) (hd:o.dst=none)
  (hrun:(execOp a.eval o).run P w = .ok .skip w') (h:Z1b P ops l a w' J∧Rg P ops Q fl (E.setIfInBounds p true) a w')
  (hP:ZJe l fl E p A J=true:=by kernel_rfl) (hw:o.guard=none:=by rfl):Next P ops Q fl E a w p:=Znx A J hops hi hP (ZRa hw) hd hrun h
theorem opc {o:Oper} {d:Nat} {f:FuncId} {args:Array Value} {R:Value→Zb→Prop} (hS:St K w0 v0 σ ℓ v a w) (hd:o.dst=some d)
  (hrun:(execOp a.eval o).run P w = .ok (.enter f args) w) (hc:Ret P f args w v R)
  (h:∀ x v' a w,v.le v'→R x v'→St K w0 v0 ((d,x) :: σ) ℓ v' a w→wpList P ops Q rest a w) (hw:o.guard=none:=by rfl) (hK:Nat.ble (d+1) K=true:=by rfl):wpList P ops Q (o :: rest) a w:=ZHk hS (ZRa hw) hd (lB hK) hrun hc h
theorem opn {o:Oper} {d:Nat} {gi t:Nat} {want:Bool} (hS:St K w0 v0 σ ℓ v a w) (hg:o.guard=some (gi,want)) (hgd:(ops[gi]?).bind (·.dst)=some t) (ht:look σ t=some (.bool !want)) (hd:o.dst=some d)
  (h:∀ a,St K w0 v0 ((d,undef) :: σ) ℓ v a w→wpList P ops Q rest a w) (hK:Nat.ble (t+1) K=true:=by rfl) (hK':Nat.ble (d+1) K=true:=by rfl):wpList P ops Q (o :: rest) a w:=Z3e hS (Zhi hS hg hgd ht (lB hK)) hd (lB hK') h
theorem opy {o:Oper} {d:Nat} {x:Value} {gi t:Nat} {want:Bool} (hS:St K w0 v0 σ ℓ v a w) (hg:o.guard=some (gi,want)) (hgd:(ops[gi]?).bind (·.dst)=some t) (ht:look σ t=some (.bool want)) (hd:o.dst=some d) (hrun:(execOp a.eval o).run P w = .ok (.value x) w)
  (h:∀ a,St K w0 v0 ((d,x) :: σ) ℓ v a w→wpList P ops Q rest a w) (hK:Nat.ble (t+1) K=true:=by rfl) (hK':Nat.ble (d+1) K=true:=by rfl):wpList P ops Q (o :: rest) a w:=op_v hS (ZQe hS hg hgd ht (lB hK)) hd (lB hK') hrun h
theorem la {d:Option Nat} {ty:TypeId} {pos:String} {aft:Array Edge} {g:Option (Nat×Bool)} (hS:St K w0 v0 σ ℓ v a w) {t T:TypeId} {x:Operand} {n b off:Nat} {cs cs0:List Value} (e:ev σ x=some (.pointer (some ⟨b,off,none⟩))) (ht:Sized P t n true)
  (i:Nat) (k:ℓ[i]? = some (.box b T cs0)) (hs:(cs0.drop off).take cs.length=cs) (hn:cs.length=n):(execOp a.eval ⟨d,.load t x,ty,pos,aft,g⟩).run P w = .ok (.value (.agg cs.toArray)) w :=
 ZOs hS e ht hn (hS.box k off cs hs)
theorem lo {d:Option Nat} {ty:TypeId} {pos:String} {aft:Array Edge} {g:Option (Nat×Bool)} (hS:St K w0 v0 σ ℓ v a w) {t T:TypeId} {x:Operand} {n b off:Nat} {y:Value} {cs0:List Value} (e:ev σ x=some (.pointer (some ⟨b,off,none⟩))) (ht:Sized P t n false)
  (i:Nat) (k:ℓ[i]? = some (.box b T cs0)) (hs:(cs0.drop off).take 1=[y]):(execOp a.eval ⟨d,.load t x,ty,pos,aft,g⟩).run P w = .ok (.value y) w :=
 Zob hS e ht (hS.box k off [y] hs)
end
end Go.Eng
namespace Go.Eng
open Go.RowKit
section
variable {P:Program} {K:Nat} {w0:Base} {v0:Zb} {σ σ':List (Nat×Value)} {ℓ:List Loc} {v:Zb} {a:Act} {w:World}
theorem rag3 (hS:St K w0 v0 σ ℓ v a w) {o t:Nat} {b:Nat} {T:TypeId} {cs0:List Value} {x y z:Value} (h:look σ o=some (.pointer (some ⟨b,0,none⟩))) (ht:Sized P t 3 true) (i:Nat) (k:ℓ[i]? = some (.box b T cs0)) (hs:(cs0.drop 0).take 3=[x,y,z]):Res P a.tmps w (.cell o t) (.agg #[x,y,z]) :=
 Zaq hS h ht rfl (hS.box k 0 [x,y,z] hs)
theorem sba (hS:St K w0 v0 σ ℓ v a w) {t T:TypeId} {n b:Nat} {cs cs0:List Value} (ht:Sized P t n true) (off i:Nat) (hi:ℓ[i]? = some (.box b T cs0)) (hp:cs.all plain=true) (hn:cs.length=n:=by rfl) (hfit:Nat.ble (off+n) cs0.length=true:=by rfl) :
  ∃ w',(∀ {d:Option Nat} {ty:TypeId} {pos:String} {aft:Array Edge} {g:Option (Nat×Bool)} {x y:Operand},ev σ x=some (.pointer (some ⟨b,off,none⟩))→ev σ y=some (.agg cs.toArray)→(execOp a.eval ⟨d,.store t x y,ty,pos,aft,g⟩).run P w = .ok .skip w')∧St K w0 v0 σ (ℓ.set i (.box b T (cs0.take off++cs++cs0.drop (off+cs.length)))) v a w' :=
 Z8h hS ht (ZVl cs) hn hi (lB hfit) hp
theorem sbp (hS:St K w0 v0 σ ℓ v a w) {t T:TypeId} {n b:Nat} (cs:List Value) {cs0:List Value} (ht:Sized P t n true) (off i:Nat) (hi:ℓ[i]? = some (.box b T cs0)) (hp:cs.all plain=true:=by first | rfl | simp[plain]) (hn:cs.length=n:=by rfl) (hfit:Nat.ble (off+n) cs0.length=true:=by rfl) :
  ∃ w',(∀ {d:Option Nat} {ty:TypeId} {pos:String} {aft:Array Edge} {g:Option (Nat×Bool)} {x y:Operand},ev σ x=some (.pointer (some ⟨b,off,none⟩))→ev σ y=some (.agg cs.toArray)→(execOp a.eval ⟨d,.store t x y,ty,pos,aft,g⟩).run P w = .ok .skip w')∧St K w0 v0 σ (ℓ.set i (.box b T (cs0.take off++cs++cs0.drop (off+cs.length)))) v a w' :=
 Z8h hS ht (ZVl cs) hn hi (lB hfit) hp
end
end Go.Eng
namespace Go.Eng
open Go.RowKit
section
variable {K:Nat} {w0:Base} {v0:Zb} {σ:List (Nat×Value)} {ℓ:List Loc} {v:Zb} {a:Act} {w:World} {P:Program} {d:Option Nat} {ty:TypeId} {pos:String} {aft:Array Edge} {g:Option (Nat×Bool)}
end
end Go.Eng
namespace Go.Eng
open Go.RowKit
structure HD where
 d:Nat
 T:TypeId
 cs:List Value
section
variable {P:Program} {K:Nat} {w0:Base} {v0:Zb} {σ:List (Nat×Value)} {ℓ:List Loc} {v:Zb} {a:Act} {w:World}
variable {ops:Array Oper} {Q:Exit→Act→World→Prop}
theorem St.sub {ℓ1 ℓ2:List Loc} (h:St K w0 v0 σ (ℓ1++ℓ2) v a w):St K w0 v0 σ ℓ2 v a w :=
 ⟨h.size,h.dfr,h.fr,h.ext,h.vst,λe he=>h.loc e (List.mem_append_right _ he),by have:=h.nd;rw[List.filterMap_append]at this;exact (List.nodup_append.1 this).2.1⟩
def hs (g:Nat→HD) (X:List Nat) (β:Nat→Nat):List Loc:=X.map λi=>.box (β i) (g i).T (g i).cs
def hp (g:Nat→HD) (X:List Nat) (β:Nat→Nat):List (Nat×Value):=X.map λi=>((g i).d,.pointer (some ⟨β i,0,none⟩))
end
end Go.Eng
namespace Go.Eng
open Go.RowKit
def ZB (k:FloatKind):Rep Nat where
 n:=1
 agg:=false
 rel v cs x:=cs=[.float k x]∧x<18446744073709551616
 len h:=by obtain⟨rfl,_⟩:=h;rfl
 mono _ h:=h
 flat h:=by obtain⟨rfl,_⟩:=h;rfl
theorem Zba {k:FloatKind} {v:Zb} {x:Nat} (h:x<18446744073709551616):(ZB k).rel v [.float k x] x:=⟨rfl,h⟩
def fits (r:Option Nat):Option Nat:=match r with
 | some r=>if r<18446744073709551616 then some r else none
 | none=>none
theorem Zre {o:Option Nat} {r:Nat} (h:fits o=some r):o=some r∧r<18446744073709551616:=by
 unfold fits at h;split at h
 ·split at h
  ·cases h;exact⟨rfl,by assumption⟩
  ·cases h
 ·cases h
def fEq (k:FloatKind) (a b:Nat):Bool:=k.format.order a b==some .eq
def fNe (k:FloatKind) (a b:Nat):Bool:=k.format.order a b != some .eq
def fLt (k:FloatKind) (a b:Nat):Bool:=k.format.order a b==some .lt
def fGt (k:FloatKind) (a b:Nat):Bool:=k.format.order a b==some .gt
def fMul (k:FloatKind) (a b:Nat):Option Nat:=fits (k.format.mul a b)
def ZEh (k k':FloatKind) (b:Nat):Option Nat:=if k=k' then fits (some b) else match k.decode b with
 | .number s m e=>if (k'.decode (k'.encode (.number s m e))).isInfinity then none else fits (some (k'.encode (.number s m e)))
 | _=>none
def Zri (k:FloatKind) (i:IntKind) (b:Nat):Option Int:=match (k.decode b).toInt .zero with
 | some n=>if i.min≤n∧n≤i.max then some n else none
 | none=>none
section
variable {P:Program} {K:Nat} {w0:Base} {v0:Zb} {σ:List (Nat×Value)} {ℓ:List Loc} {v:Zb} {a:Act} {w:World}
variable {d:Option Nat} {ty:TypeId} {pos:String} {aft:Array Edge} {g:Option (Nat×Bool)}
theorem ZMo (hS:St K w0 v0 σ ℓ v a w) {t t':TypeId} {x y:Operand} {k:FloatKind} {p q:Nat} (e:ev σ x=some (.float k p)) (e':ev σ y=some (.float k q)):(execOp a.eval ⟨d,.binOp .eql t x y t',ty,pos,aft,g⟩).run P w = .ok (.value (.bool (fEq k p q))) w:=by
 simp[execOp,hS.eval e,hS.eval e',eqGuard,binOp,Op.floatCmp,fEq]
theorem run_fNe (hS:St K w0 v0 σ ℓ v a w) {t t':TypeId} {x y:Operand} {k:FloatKind} {p q:Nat} (e:ev σ x=some (.float k p)) (e':ev σ y=some (.float k q)):(execOp a.eval ⟨d,.binOp .neq t x y t',ty,pos,aft,g⟩).run P w = .ok (.value (.bool (fNe k p q))) w:=by
 simp[execOp,hS.eval e,hS.eval e',eqGuard,binOp,Op.floatCmp,fNe]
theorem Z5o (hS:St K w0 v0 σ ℓ v a w) {t t':TypeId} {x y:Operand} {k:FloatKind} {p q:Nat} (e:ev σ x=some (.float k p)) (e':ev σ y=some (.float k q)):(execOp a.eval ⟨d,.binOp .lss t x y t',ty,pos,aft,g⟩).run P w = .ok (.value (.bool (fLt k p q))) w:=by
 simp[execOp,hS.eval e,hS.eval e',eqGuard,binOp,Op.floatCmp,fLt]
theorem run_fGt (hS:St K w0 v0 σ ℓ v a w) {t t':TypeId} {x y:Operand} {k:FloatKind} {p q:Nat} (e:ev σ x=some (.float k p)) (e':ev σ y=some (.float k q)):(execOp a.eval ⟨d,.binOp .gtr t x y t',ty,pos,aft,g⟩).run P w = .ok (.value (.bool (fGt k p q))) w:=by
 simp[execOp,hS.eval e,hS.eval e',eqGuard,binOp,Op.floatCmp,fGt]
theorem Zsr (hS:St K w0 v0 σ ℓ v a w) {t t':TypeId} {x y:Operand} {k:FloatKind} {p q r:Nat} (e:ev σ x=some (.float k p)) (e':ev σ y=some (.float k q)) (h:fMul k p q=some r):(execOp a.eval ⟨d,.binOp .mul t x y t',ty,pos,aft,g⟩).run P w = .ok (.value (.float k r)) w:=by
 simp[execOp,hS.eval e,hS.eval e',eqGuard,binOp,Op.floatArith,(Zre h).1]
theorem conv_fI {s t:TypeId} {k k0:FloatKind} {i:IntKind} {b:Nat} {n:Int} (hs:P.underlying s=some (.float k0)) (ht:P.underlying t=some (.int i)) (h:Zri k i b=some n) (w:World):(convert s t (.float k b)).run P w = .ok (.int i n) w:=by
 unfold Zri at h;split at h
 ·rename_i m hm;split at h
  ·rename_i hr
   cases h
   simp[convert,run_underlying hs,run_underlying ht,Conv.floatToInt,hm,hr]
  ·cases h
 ·cases h
theorem Zbw {k:FloatKind} {i:IntKind} {b:Nat} {n:Int} (h:Zri k i b=some n):inR i n:=by
 unfold Zri at h;split at h
 ·split at h
  ·rename_i hr;cases h;exact hr
  ·cases h
 ·cases h
theorem conv_ff {s t:TypeId} {k k' k0:FloatKind} {b r:Nat} (hs:P.underlying s=some (.float k0)) (ht:P.underlying t=some (.float k')) (h:ZEh k k' b=some r) (w:World):(convert s t (.float k b)).run P w = .ok (.float k' r) w:=by
 unfold ZEh at h;split at h
 ·rename_i hk;have:=Option.some.inj (Zre h).1;subst hk this;simp[convert,run_underlying hs,run_underlying ht,Conv.floatToFloat]
 ·rename_i hk;split at h
  ·rename_i sg m e hm;split at h
   ·cases h
   ·rename_i hi;have:=Option.some.inj (Zre h).1;have hi':(k'.decode r).isInfinity=false:=by rw[← this];simpa using hi
    simp[convert,run_underlying hs,run_underlying ht,Conv.floatToFloat,hk,hm,hi',this]
  ·cases h
theorem Ztx {k k':FloatKind} {b r:Nat} (h:ZEh k k' b=some r):r<18446744073709551616:=by
 unfold ZEh at h;split at h
 ·exact (Zre h).2
 ·split at h
  ·split at h
   ·cases h
   ·exact (Zre h).2
  ·cases h
theorem Zxh {f:FuncId} (hf:ZPc P f Extern.MathFloatBits.float64bits) {b:Nat} (w:World):(callFunc f #[.float .f64 b]).run P w = .ok (.value (.int .u64 (b:Int))) w:=by
 rw[hf.run];rfl
theorem ZOh {f:FuncId} (hf:ZPc P f Extern.MathFloatBits.float64frombits) {n:Int} (w:World):(callFunc f #[.int .u64 n]).run P w = .ok (.value (.float .f64 n.toNat)) w:=by
 rw[hf.run];rfl
theorem Zaj {n:Int} (h:inR .u64 n):n.toNat<18446744073709551616:=by
 have:n≤18446744073709551615:=h.2;omega
end
def Zpc (k:IntKind) (p q:Int):Int:=k.wrap (BitVec.ofInt k.bits p &&& ~~~ BitVec.ofInt k.bits q).toNat
theorem ZEi {P:Program} {t:TypeId} {k:IntKind} {p q:Int} (w:World):(binOp .andNot t (.int k p) (.int k q)).run P w = .ok (.int k (Zpc k p q)) w:=by simp[binOp,Op.intBits,Zpc]
end Go.Eng
namespace Go.Eng
open Go.RowKit
section
variable {P:Program} {K:Nat} {w0:Base} {v0:Zb} {σ:List (Nat×Value)} {ℓ:List Loc} {v:Zb} {a:Act} {w:World}
variable {d:Option Nat} {ty:TypeId} {pos:String} {aft:Array Edge} {g:Option (Nat×Bool)}
end
end Go.Eng
namespace Go.Eng
open Go.RowKit
def Zc (B:Nat) (n:Nat):List Int:=if h:n=0∨B<2 then [] else ((n%B:Nat):Int) :: Zc B (n / B)
termination_by n
decreasing_by exact Nat.div_lt_self (by omega) (by omega)
def rW:Rep (List Int):=Zs (Zd .u64)
def rW32:Rep (List Int):=Zs (Zd .u32)
def Zu:Rep Nat:=rW.via (Zc 18446744073709551616)
def Zeb:Rep Nat:=rW32.via (Zc 4294967296)
def Zkb:Rep Int:=(ZD Znb Zu).via λi=>(decide (i<0),i.natAbs)
def ZCa (d:Nat):Nat:=if d=1 then 0 else d
def ZUa:Rep Rat:=(ZD Zkb Zu).via λq=>(q.num,ZCa q.den)
def rQ:Rep Rat:=(ZD Znb (ZD Zeb Zeb)).via λq=>(decide (q.num<0),q.num.natAbs,q.den)
theorem Zkg {α:Type} {A:Rep α} {v:Zb} {cs:List Value} {l:List α} (h:(Zs A).rel v cs l):∃ q n k,cs=[.slice q n k]:=by
 obtain⟨q,cap,e,_⟩:=h;exact⟨q,_,cap,e⟩
theorem ZGa {v:Zb} {cs:List Value} {n:Nat} (h:Zu.rel v cs n):∃ q n k,cs=[.slice q n k]:=Zkg (A:=Zd .u64) h
theorem Zwd {v:Zb} {cs:List Value} {n:Nat} (h:Zeb.rel v cs n):∃ q n k,cs=[.slice q n k]:=Zkg (A:=Zd .u32) h
theorem Z3f {v:Zb} {cs:List Value} {i:Int} (h:Zkb.rel v cs i):∃ s q n k,cs=[.bool s,.slice q n k]:=by
 obtain⟨c1,c2,rfl,h1,h2⟩:=h;obtain⟨q,n,k,rfl⟩:=ZGa h2;exact⟨_,q,n,k,by rw[show c1=_ from h1];rfl⟩
theorem Z0q {v:Zb} {cs:List Value} {q:Rat} (h:ZUa.rel v cs q):∃ s q n k q' n' k',cs=[.bool s,.slice q n k,.slice q' n' k']:=by
 obtain⟨c1,c2,rfl,h1,h2⟩:=h;obtain⟨s,q,n,k,rfl⟩:=Z3f h1;obtain⟨q',n',k',rfl⟩:=ZGa h2;exact⟨s,q,n,k,q',n',k',rfl⟩
theorem Z5v {v:Zb} {cs:List Value} {q:Rat} (h:rQ.rel v cs q):∃ s q n k q' n' k',cs=[.bool s,.slice q n k,.slice q' n' k']:=by
 obtain⟨c1,c23,rfl,h1,c2,c3,rfl,h2,h3⟩:=h;obtain⟨q,n,k,rfl⟩:=Zwd h2;obtain⟨q',n',k',rfl⟩:=Zwd h3;exact⟨_,q,n,k,q',n',k',by rw[show c1=_ from h1];rfl⟩
theorem Z5 (B:Nat):Zc B 0=[]:=by unfold Zc;simp
theorem Zvg (v:Zb):Zu.rel v [.slice none 0 0] 0:=by
 show (Zs (Zd .u64)).rel v _ (Zc _ 0);rw[Z5];exact ZEf _ v
theorem Zmk (v:Zb):Zeb.rel v [.slice none 0 0] 0:=by
 show (Zs (Zd .u32)).rel v _ (Zc _ 0);rw[Z5];exact ZEf _ v
theorem ZGr (v:Zb):Zkb.rel v [.bool false,.slice none 0 0] 0:=⟨[.bool false],[.slice none 0 0],rfl,rfl,Zvg v⟩
theorem Z2q (v:Zb):ZUa.rel v [.bool false,.slice none 0 0,.slice none 0 0] 0:=⟨[.bool false,.slice none 0 0],[.slice none 0 0],rfl,ZGr v,Zvg v⟩
theorem ZHj {σ ρ:Type} {body:σ→Option (σ ⊕ ρ)} (I:σ→Prop) (μ:σ→Nat) (Q:ρ→Prop)
  (h:∀ s,I s→(∃ s',body s=some (.inl s')∧I s'∧μ s'<μ s) ∨ ∃ r,body s=some (.inr r)∧Q r) :
  ∀ (n:Nat) (s:σ),I s→μ s<n→∃ r,Zi body n s=some r∧Q r:=by
 intro n
 induction n with
 | zero=>intro s _ h;omega
 | succ n ih =>
  intro s hs hn;rcases h s hs with ⟨s',e,h1,h2⟩ | ⟨r,e,h1⟩
  ·obtain⟨r,e2,h3⟩:=ih s' h1 (by omega);exact⟨r,by simp only[Zi,e,bnd];exact e2,h3⟩
  ·exact⟨r,by simp only[Zi,e,bnd],h1⟩
theorem Zjk {σ ρ:Type} {body:σ→Option (σ ⊕ ρ)} (I:σ→Prop) (μ:σ→Nat) {r:ρ} {n:Nat} {s:σ} (hs:I s) (hn:μ s<n)
  (h:∀ s,I s→(∃ s',body s=some (.inl s')∧I s'∧μ s'<μ s)∨body s=some (.inr r)):Zi body n s=some r:=by
 obtain⟨r',e,rfl⟩:=ZHj I μ (· = r) (λs hs=>(h s hs).imp_right λe=>⟨r,e,rfl⟩) n s hs hn;exact e
theorem Zwa {σ ρ β:Type} {body:σ→Option (σ ⊕ ρ)} {f:ρ→Option β} {z:β} {n:Nat} {s:σ} (I:σ→Prop) (μ:σ→Nat) (Q:ρ→Prop) (hs:I s) (hn:μ s<n)
  (h:∀ s,I s→(∃ s',body s=some (.inl s')∧I s'∧μ s'<μ s) ∨ ∃ r,body s=some (.inr r)∧Q r) (hf:∀ r,Q r→f r=some z):bnd (Zi body n s) f=some z:=by
 obtain⟨r,e,hq⟩:=ZHj I μ Q h n s hs hn;rw[e];exact hf r hq
theorem Zca {α β γ:Type} (x:Option α) (f:α→Option β) (g:β→Option γ):bnd (bnd x f) g=bnd x (λr=>bnd (f r) g):=by cases x <;> rfl
theorem ZX {n:Nat} (h:n<2^65):n<Zm:=Nat.lt_of_lt_of_le h (by unfold Zm;exact Nat.pow_le_pow_right (by omega) (by omega))
theorem Zv {x:Int} (h:-9223372036854775808≤x) (h':x≤9223372036854775807):chk .i64 x=some x:=ZXk (Zva.2 ⟨h,h'⟩)
theorem Zn {α:Type} {l:List α} {i:Nat} (h:i<l.length):idx l (i:Int)=some l[i]:=by simp[idx,h]
theorem Za {α β:Type} (x:α) (f:α→Option β):bnd (some x) f=f x:=(rfl:bnd (some x) f=f x).trans rfl
theorem Zf {α:Type} (x y:Option α):ifb true x y=x:=(rfl:ifb true x y=x).trans rfl
theorem Ze {α:Type} (x y:Option α):ifb false x y=y:=(rfl:ifb false x y=y).trans rfl
def val (B:Nat):List Int→Nat
 | []=>0
 | x :: l=>x.toNat+B*val B l
def Dig (B:Nat) (l:List Int):Prop:=∀ x ∈ l,0≤x∧x<B
theorem Dig.nil {B:Nat}:Dig B []:=λ_ h=>by cases h
theorem Dig.cons {B:Nat} {x:Int} {l:List Int}:Dig B (x :: l)↔(0≤x∧x<B)∧Dig B l:=by simp[Dig]
theorem Dig.append {B:Nat} {l l':List Int}:Dig B (l++l')↔Dig B l∧Dig B l':=by
 simp only[Dig,List.mem_append];exact⟨λh=>⟨λx hx=>h x (.inl hx),λx hx=>h x (.inr hx)⟩,λh x hx=>hx.elim (h.1 x) (h.2 x)⟩
theorem Dig.take {B:Nat} {l:List Int} (h:Dig B l) (n:Nat):Dig B (l.take n):=λx hx=>h x (List.mem_of_mem_take hx)
theorem Dig.drop {B:Nat} {l:List Int} (h:Dig B l) (n:Nat):Dig B (l.drop n):=λx hx=>h x (List.mem_of_mem_drop hx)
theorem Dig.get {B:Nat} {l:List Int} (h:Dig B l) {i:Nat} (hi:i<l.length):0≤l[i]∧l[i]<B:=h _ (List.getElem_mem hi)
theorem Dig.set {B:Nat} {l:List Int} (h:Dig B l) (i:Nat) {x:Int} (hx:0≤x∧x<B):Dig B (l.set i x):=λy hy=>by
 rcases List.mem_or_eq_of_mem_set hy with hy | rfl
 ·exact h y hy
 ·exact hx
theorem Dig.replicate {B:Nat} (n:Nat) {x:Int} (hx:0≤x∧x<B):Dig B (List.replicate n x):=λy hy=>by rw[(List.mem_replicate.1 hy).2];exact hx
theorem Z0c (B:Nat) (l l':List Int):val B (l++l')=val B l+B^l.length*val B l':=by
 induction l with
 | nil=>simp[val]
 | cons x l ih=>simp only[List.cons_append,val,ih,List.length_cons,Nat.pow_succ];grind
theorem Z9c {B:Nat} {l:List Int} (h:Dig B l):val B l<B^l.length:=by
 induction l with
 | nil=>simp[val]
 | cons x l ih =>
  have h1:=(Dig.cons.1 h).1;have h2:=ih (Dig.cons.1 h).2;simp only[val,List.length_cons,Nat.pow_succ];have h3:B*(val B l+1)≤B*B^l.length:=Nat.mul_le_mul_left _ h2;have h4:x.toNat<B:=by omega
  rw[Nat.mul_comm (B^l.length) B];rw[Nat.mul_add]at h3;omega
theorem Zib {B:Nat} {l:List Int} {i:Nat} (hi:i<l.length):val B (l.take (i+1))=val B (l.take i)+B^i*l[i].toNat:=by
 rw[List.take_succ_eq_append_getElem hi,Z0c];simp[val,List.length_take,Nat.min_eq_left (Nat.le_of_lt hi)]
theorem Zoj (B n:Nat):val B (List.replicate n 0)=0:=by
 induction n with
 | zero=>rfl
 | succ n ih=>simp[List.replicate_succ,val,ih]
theorem Z6b {B:Nat} {l:List Int} {i:Nat} (hi:i<l.length):val B (l.drop i)=l[i].toNat+B*val B (l.drop (i+1)):=by
 rw[List.drop_eq_getElem_cons hi];rfl
theorem Zhd (B:Nat) (l:List Int) (i:Nat) (hi:i≤l.length):val B l=val B (l.take i)+B^i*val B (l.drop i):=by
 conv=>lhs;rw[← List.take_append_drop i l]
 rw[Z0c,List.length_take,Nat.min_eq_left hi]
theorem Z2g {B:Nat} {l:List Int} {i:Nat} {x:Int} (hi:i<l.length):val B (l.set i x)+B^i*l[i].toNat=val B l+B^i*x.toNat:=by
 have e:l.set i x=l.take i++(x :: l.drop (i+1)):=by rw[List.set_eq_take_append_cons_drop,iP hi]
 rw[e,Z0c,List.length_take,Nat.min_eq_left (Nat.le_of_lt hi),Zhd B l i (Nat.le_of_lt hi),Z6b hi];simp only[val];grind
def Cut (l:List Int):Prop:=∀ x,l.getLast? = some x→x≠0
theorem Zyc {B n:Nat} (hB:2≤B) (hn:n≠0):Zc B n=((n%B:Nat):Int) :: Zc B (n / B):=by
 rw[Zc];rw[dif_neg (by omega)]
theorem Zma {B:Nat} (hB:2≤B) (n:Nat):val B (Zc B n)=n:=by
 induction n using Nat.strongRecOn with
 | ind n ih =>
  by_cases h:n=0
  ·subst h;rw[Z5];rfl
  ·rw[Zyc hB h];simp only[val];rw[ih _ (Nat.div_lt_self (by omega) (by omega))];rw[tN];exact Nat.mod_add_div n B
theorem ZFa {B:Nat} (hB:2≤B) (n:Nat):Dig B (Zc B n):=by
 induction n using Nat.strongRecOn with
 | ind n ih =>
  by_cases h:n=0
  ·subst h;rw[Z5];exact Dig.nil
  ·rw[Zyc hB h,Dig.cons];have:=Nat.mod_lt n (show 0<B by omega);exact⟨by omega,ih _ (Nat.div_lt_self (by omega) (by omega))⟩
theorem Zeg {B n:Nat} (hB:2≤B):Zc B n=[]↔n=0:=by
 constructor
 ·intro h;have:=Zma hB n;rw[h]at this;exact this.symm
 ·rintro rfl;exact Z5 B
theorem ZRj {B:Nat} (hB:2≤B) (n:Nat):Cut (Zc B n):=by
 induction n using Nat.strongRecOn with
 | ind n ih =>
  by_cases h:n=0
  ·subst h;rw[Z5];intro x hx;cases hx
  ·rw[Zyc hB h];intro x hx;by_cases h2:n / B=0
   ·rw[h2,Z5]at hx;simp at hx;have:=Nat.mod_add_div n B;rw[h2]at this;omega
   ·have h3:Zc B (n / B)≠[]:=λe=>h2 ((Zeg hB).1 e);rw[List.getLast?_cons_of_ne_nil h3]at hx;exact ih _ (Nat.div_lt_self (by omega) (by omega)) x hx
theorem Zuf {B:Nat} (hB:2≤B):∀ {l:List Int},Dig B l→Cut l→Zc B (val B l)=l
 | [],_,_=>Z5 B
 | x :: l,h,c=>by
  obtain⟨hx,hl⟩:=Dig.cons.1 h
  have e:val B (x :: l)≠0:=by
   intro e;simp only[val]at e;have hv:val B l=0:=by
    have:B*val B l=0:=by omega
    rcases Nat.mul_eq_zero.1 this with h | h
    ·omega
    ·exact h
   by_cases hl0:l=[]
   ·subst hl0;have:=c x (by simp);omega
   ·have c':Cut l:=λy hy=>c y (by rw[List.getLast?_cons_of_ne_nil hl0];exact hy);have:=Zuf hB hl c';rw[hv,Z5]at this;exact hl0 this.symm
  have c':Cut l:=by
   intro y hy;have hl0:l≠[]:=by rintro rfl;cases hy
   exact c y (by rw[List.getLast?_cons_of_ne_nil hl0];exact hy)
  rw[Zyc hB e];have h1:val B (x :: l)%B=x.toNat:=by simp only[val];rw[Nat.add_mul_mod_self_left];exact Nat.mod_eq_of_lt (by omega)
  have h2:val B (x :: l) / B=val B l:=by
   simp only[val];rw[Nat.add_mul_div_left _ _ (by omega:0<B),Nat.div_eq_of_lt (by omega)];omega
  rw[h1,h2,Zuf hB hl c'];congr 1;omega
theorem ZUj {B n:Nat} (h0:n≠0) (h:n<B):Zc B n=[(n:Int)]:=by
 rw[Zyc (by omega) h0,Nat.mod_eq_of_lt h,Nat.div_eq_of_lt h,Z5]
theorem Zlf {B:Nat} (hB:2≤B) {n k:Nat} (h:n<B^k):(Zc B n).length≤k:=by
 induction k generalizing n with
 | zero=>simp at h;subst h;rw[Z5];simp
 | succ k ih =>
  by_cases h0:n=0
  ·subst h0;rw[Z5];simp
  ·rw[Zyc hB h0,List.length_cons];have:n / B<B^k:=Nat.div_lt_of_lt_mul (by rw[Nat.pow_succ,Nat.mul_comm]at h;exact h);have:=ih this;omega
theorem Zcc {B:Nat} (hB:2≤B) (n:Nat):n<B^(Zc B n).length:=by
 have:=Z9c (ZFa hB n)
 rwa [Zma hB]at this
theorem Zgh {B:Nat} (hB:2≤B) {n:Nat} (h:n≠0):B^((Zc B n).length-1)≤n:=by
 induction n using Nat.strongRecOn with
 | ind n ih =>
  rw[Zyc hB h,List.length_cons];by_cases h2:n / B=0
  ·rw[h2,Z5];simp;omega
  ·have h3:=ih _ (Nat.div_lt_self (by omega) (by omega)) h2;have h4:0<(Zc B (n / B)).length:=List.length_pos_iff.2 λe=>h2 ((Zeg hB).1 e);have h5:(Zc B (n / B)).length+1-1=(Zc B (n / B)).length-1+1:=by omega
   rw[h5,Nat.pow_succ];have h6:B^((Zc B (n / B)).length-1)*B≤n / B*B:=mR _ h3;have h7:=Nat.div_mul_le_self n B;omega
def ZKa (n m:Nat):Int:=if n<m then -1 else if m<n then 1 else 0
def ZOf (n:Nat):Option Bool:=some (decide (n=1))
def ZSa (a:List Int):Option Nat:=some (val 18446744073709551616 a)
def ZIe (n m:Nat):Option Int:=some (ZKa n m)
def clo (l:List Int):Option Nat:=if Zc 18446744073709551616 (val 18446744073709551616 l)=l then some (val 18446744073709551616 l) else none
def Z7b (l:List Int):Option Nat:=if Zc 4294967296 (val 4294967296 l)=l then some (val 4294967296 l) else none
theorem ZNw {l:List Int} {n:Nat} (h:clo l=some n):Zc 18446744073709551616 n=l:=by
 unfold clo at h;split at h
 ·cases h;assumption
 ·cases h
theorem Z8t {l:List Int} {n:Nat} (h:Z7b l=some n):Zc 4294967296 n=l:=by
 unfold Z7b at h;split at h
 ·cases h;assumption
 ·cases h
theorem clo_rel {v:Zb} {c:List Go.Value} {l:List Int} {n:Nat} (h:(Zs (Zd .u64)).rel v c l) (e:clo l=some n):Zu.rel v c n:=by
 show (Zs (Zd .u64)).rel v c (Zc 18446744073709551616 n);rw[ZNw e];exact h
theorem Zvw {v:Zb} {c:List Go.Value} {l:List Int} {n:Nat} (h:(Zs (Zd .u32)).rel v c l) (e:Z7b l=some n):Zeb.rel v c n:=by
 show (Zs (Zd .u32)).rel v c (Zc 4294967296 n);rw[Z8t e];exact h
theorem Z8p (n:Nat):Z7b (Zc 4294967296 n)=some n:=by
 unfold Z7b;rw[Zma (by decide),iP rfl]
theorem Zqt {l:List Int} (h:Dig 18446744073709551616 l) (c:Cut l):clo l=some (val 18446744073709551616 l):=by
 unfold clo;rw[Zuf (by decide) h c,iP rfl]
def okN (n:Nat):Prop:=(Zc 18446744073709551616 n).length≤68719476736
instance (n:Nat):Decidable (okN n):=inferInstanceAs (Decidable (_≤_))
def Zyf (n m:Nat):Option Nat:=if okN n∧okN m then some (n+m) else none
def ZNg (n m:Nat):Option Nat:=if okN n∧m≤n then some (n-m) else none
def ZDb (n m:Nat):Option Nat:=if okN n∧okN m then some (n*m) else none
def ZKc (n:Nat) (k:Int):Option Nat:=if okN n∧0≤k∧k≤1099511627776 then some (n*2^k.toNat) else none
def Zwf (n:Nat) (k:Int):Option Nat:=if okN n∧0≤k then some (n / 2^k.toNat) else none
def ZJd (n:Nat) (d:Int):Option (Nat×Int):=if okN n∧0<d then some (n / d.toNat,((n%d.toNat:Nat):Int)) else none
def ZId (n m:Nat):Option (Nat×Nat):=if okN n∧okN m∧m≠0 then some (n / m,n%m) else none
def gcdF (n m:Nat):Option Nat:=if okN n∧okN m then some (Nat.gcd n m) else none
def Zcg (n m:Nat):Option Int:=if n<18446744073709551616∧m<18446744073709551616∧m≠0 then some ((Nat.gcd n m:Nat):Int) else none
def Zbd (x y:Int):Option (Int×Int):=if 0≤x∧0≤y∧x<18446744073709551616∧y<18446744073709551616 then some (x*y / 18446744073709551616,x*y%18446744073709551616) else none
def bl (n:Nat):Nat:=if n=0 then 0 else Nat.log2 n+1
def ZQh (x:Int):Option Int:=if 0≤x∧x<18446744073709551616 then some (bl x.toNat:Int) else none
def Zud (x:Int):Option Int:=if 0≤x∧x<18446744073709551616 then some (64-(bl x.toNat:Int)) else none
def Zdd (hi lo y:Int):Option (Int×Int):=if 0≤hi∧0≤lo∧lo<18446744073709551616∧hi<y∧y<18446744073709551616 then some ((hi*18446744073709551616+lo) / y,(hi*18446744073709551616+lo)%y) else none
def Zwb:Nat→Nat→List Int
 | 0,_=>[]
 | k+1,n=>((n%18446744073709551616:Nat):Int) :: Zwb k (n / 18446744073709551616)
def Zgb (n:Int):Option Nat:=some n.toNat
def Zfg (u:List Int) (v:Nat) (q:Int):Option (Bool×List Int) :=
 if okN v∧u.length=(Zc 18446744073709551616 v).length+1 then
  if val 18446744073709551616 u<v*q.toNat then some (false,u) else some (true,Zwb u.length (val 18446744073709551616 u-v*q.toNat))
 else none
def Z7f (u:List Int) (v:Nat):Option (Int×List Int) :=
 if okN v∧u.length=(Zc 18446744073709551616 v).length+1∧2≤(Zc 18446744073709551616 v).length∧val 18446744073709551616 u<v*18446744073709551616 then
  some (((val 18446744073709551616 u / v:Nat):Int),Zwb u.length (val 18446744073709551616 u%v))
 else none
theorem Zns:∀ k n,(Zwb k n).length=k
 | 0,_=>rfl
 | k+1,n=>by simp[Zwb,Zns k]
theorem Zit:∀ k n,Dig 18446744073709551616 (Zwb k n)
 | 0,_=>Dig.nil
 | k+1,n=>Dig.cons.2 ⟨by omega,Zit k _⟩
theorem Z2o:∀ {l:List Int},Dig 18446744073709551616 l→Zwb l.length (val 18446744073709551616 l)=l
 | [],_=>rfl
 | x :: l,h=>by
  obtain⟨h1,h2⟩:=Dig.cons.1 h
  have e1:val 18446744073709551616 (x :: l)%18446744073709551616=x.toNat:=by simp only[val];omega
  have e2:val 18446744073709551616 (x :: l) / 18446744073709551616=val 18446744073709551616 l:=by simp only[val];omega
  rw[List.length_cons,Zwb,e1,e2,Z2o h2]
  congr 1;omega
theorem Z3r:∀ {k n:Nat},n<18446744073709551616^k→val 18446744073709551616 (Zwb k n)=n
 | 0,n,h=>by simp at h;subst h;rfl
 | k+1,n,h=>by
  have:n / 18446744073709551616<18446744073709551616^k:=Nat.div_lt_of_lt_mul (by rw[Nat.pow_succ,Nat.mul_comm]at h;exact h)
  simp only[Zwb,val]
  rw[Z3r this]
  omega
def Zyd (s:Bool) (n:Nat):Option Int:=if s=true∧n=0 then none else some (if s then -(n:Int) else n)
theorem Zzs {v:Zb} {s:Bool} {x:Value} {i:Int} (h:Zkb.rel v [.bool s,x] i):s=decide (i<0)∧Zu.rel v [x] i.natAbs:=by
 obtain⟨c1,c2,e,h1,h2⟩:=h;have h1':c1=[.bool (decide (i<0))]:=h1;subst h1'
 cases e
 exact⟨rfl,h2⟩
theorem Z7x {v:Zb} {s:Bool} {x:Value} {n:Nat} {i:Int} (h:Zu.rel v [x] n) (e:Zyd s n=some i):Zkb.rel v [.bool s,x] i:=by
 unfold Zyd at e;split at e
 ·cases e
 ·rename_i hn
  cases e
  refine⟨[.bool s],[x],rfl,?_,?_⟩
  ·show [Value.bool s]=[Value.bool (decide _)]
   cases s
   ·simp
   ·have:n≠0:=λh0=>hn ⟨rfl,h0⟩;simp;omega
  ·show Zu.rel v [x] (Int.natAbs _)
   cases s
   ·exact h
   ·simpa using h
theorem Z0y {v:Zb} {a b c:Value} {q:Rat} (h:ZUa.rel v [a,b,c] q):Zkb.rel v [a,b] q.num∧Zu.rel v [c] (ZCa q.den):=by
 obtain⟨c1,c2,e,h1,h2⟩:=h;obtain⟨s,q',n,k,e1⟩:=Z3f h1;obtain⟨q2,n2,k2,e2⟩:=ZGa h2;have h1':c1=[.bool s,.slice q' n k]:=e1;have h2':c2=[.slice q2 n2 k2]:=e2;subst h1' h2'
 cases e
 exact⟨h1,h2⟩
def ZXe (d:Nat):Nat:=if d=0 then 1 else d
def Zne (i:Int) (d:Nat):Option Rat:=if d≠1∧(mkRat i (ZXe d)).num=i∧ZCa (mkRat i (ZXe d)).den=d then some (mkRat i (ZXe d)) else none
theorem Zms {v:Zb} {a b c:Value} {i:Int} {d:Nat} {q:Rat} (h1:Zkb.rel v [a,b] i) (h2:Zu.rel v [c] d) (e:Zne i d=some q):ZUa.rel v [a,b,c] q:=by
 unfold Zne at e;split at e
 ·rename_i hh;obtain⟨_,h3,h4⟩:=hh;have e:=Option.some.inj e;rw[e]at h3 h4;refine⟨[a,b],[c],rfl,?_,?_⟩
  ·show Zkb.rel v [a,b] q.num;rw[h3];exact h1
  ·show Zu.rel v [c] (ZCa q.den);rw[h4];exact h2
 ·cases e
theorem Z2s (d:Nat) (h:d≠0):ZXe (ZCa d)=d:=by
 unfold ZXe ZCa;by_cases h1:d=1
 ·simp[h1]
 ·rw[iN h1,iN h]
theorem ZDm (q:Rat):Zne q.num (ZCa q.den)=some q:=by
 have e:=Z2s q.den q.den_nz;unfold Zne;rw[e,Rat.mkRat_self,iP ⟨by unfold ZCa;split <;> omega,rfl,rfl⟩]
def ZOa (s:Bool) (n:Nat):Option Int:=some (if s then -(n:Int) else n)
def ofF (n:Int):Option Int:=some n
def ZIc (d:Nat):Option Nat:=some (ZXe d)
def Zuh (x:Int):Option Int:=some x.sign
def Zwi (x y:Int):Option Int:=if okN x.natAbs∧okN y.natAbs then some (x+y) else none
def Zji (x y:Int):Option Int:=if okN x.natAbs∧okN y.natAbs then some (x*y) else none
def Zye (x:Int) (n:Nat):Option Int:=if okN x.natAbs∧okN n then some (x*n) else none
def Znh (x:Int):Option Int:=some (-x)
def Zvh (x:Rat):Option Bool:=some (decide (x=0))
def Zsd (n:Int):Option Rat:=some (n:Rat)
def ZQb (n:Int) (d:Nat):Option Rat:=if okN n.natAbs∧okN d∧d≠0 then some (mkRat n d) else none
def okQ (x:Rat):Prop:=bl x.num.natAbs≤1099511627776∧bl x.den≤1099511627776
instance (x:Rat):Decidable (okQ x):=inferInstanceAs (Decidable (_∧_))
def Z4d (x y:Rat):Option Rat:=if okQ x∧okQ y then some (x+y) else none
def ZNe (x y:Rat):Option Rat:=if okQ x∧okQ y then some (x-y) else none
def ZMf (x y:Rat):Option Rat:=if okQ x∧okQ y then some (x*y) else none
def ZBf (x y:Rat):Option (Rat×Int):=if okQ x∧okQ y then some (if y=0 then (0,3) else (x / y,0)) else none
def Zih (x:Rat):Option Rat:=some (-x)
def ZMb (x:Rat):Option Int:=some x.num.sign
def Zli (n d:Int):Option (Rat×Int):=some (if d=0 then (0,3) else (Rat.divInt n d,0))
def Ztf (x y:Rat):Option Int:=if okQ x∧okQ y then some (x-y).num.sign else none
theorem rQ_open {v:Zb} {s:Bool} {a b:Value} {q:Rat} (h:rQ.rel v [.bool s,a,b] q):s=decide (q.num<0)∧Zeb.rel v [a] q.num.natAbs∧Zeb.rel v [b] q.den:=by
 obtain⟨c1,c23,e,h1,c2,c3,rfl,h2,h3⟩:=h;obtain⟨q',n',k',rfl⟩:=Zwd h2;obtain⟨q2,n2,k2,rfl⟩:=Zwd h3;have h1':c1=[.bool (decide (q.num<0))]:=h1;subst h1'
 cases e
 exact⟨rfl,h2,h3⟩
def sgn (s:Bool) (n:Nat):Int:=if s then -(n:Int) else n
def Zzd (s:Bool) (n d:Nat):Option Rat:=if decide ((mkRat (sgn s n) d).num<0)=s∧(mkRat (sgn s n) d).num.natAbs=n∧(mkRat (sgn s n) d).den=d then some (mkRat (sgn s n) d) else none
theorem ZUo {v:Zb} {s:Bool} {a b:Value} {n d:Nat} {q:Rat} (h1:Zeb.rel v [a] n) (h2:Zeb.rel v [b] d) (e:Zzd s n d=some q):rQ.rel v [.bool s,a,b] q:=by
 unfold Zzd at e;split at e
 ·rename_i hh;obtain⟨h3,h4,h5⟩:=hh;have e:=Option.some.inj e;rw[e]at h3 h4 h5;refine⟨[.bool s],[a,b],rfl,?_,[a],[b],rfl,?_,?_⟩
  ·show [Value.bool s]=[Value.bool (decide (q.num<0))];rw[h3]
  ·show Zeb.rel v [a] q.num.natAbs;rw[h4];exact h1
  ·show Zeb.rel v [b] q.den;rw[h5];exact h2
 ·cases e
theorem sgn_num (q:Rat):sgn (decide (q.num<0)) q.num.natAbs=q.num:=by
 unfold sgn;by_cases h:q.num<0
 ·simp[h];omega
 ·simp[h];omega
theorem Z0n (q:Rat):Zzd (decide (q.num<0)) q.num.natAbs q.den=some q:=by
 unfold Zzd;rw[sgn_num,Rat.mkRat_self,iP ⟨rfl,rfl,rfl⟩]
def fNeg (k:FloatKind) (b:Nat):Option Nat:=fits (some (Op.negFloat k b))
section
variable {P:Program} {K:Nat} {w0:Base} {v0:Zb} {σ:List (Nat×Value)} {ℓ:List Loc} {v:Zb} {a:Act} {w:World}
variable {d:Option Nat} {ty:TypeId} {pos:String} {aft:Array Edge} {g:Option (Nat×Bool)}
theorem Zzz (hS:St K w0 v0 σ ℓ v a w) {t:TypeId} {x:Operand} {k:FloatKind} {p r:Nat} (e:ev σ x=some (.float k p)) (h:fNeg k p=some r):(execOp a.eval ⟨d,.unOp .neg t x,ty,pos,aft,g⟩).run P w = .ok (.value (.float k r)) w:=by
 have:=Option.some.inj (Zre h).1;simp[execOp,hS.eval e,Op.unary,this]
end
end Go.Eng
namespace Go.Eng
open Go.RowKit Go.WideShapes Go.ChangeShapes
def ZQi (W:World):Zb:=λb=>W.heap[b]?
theorem ZGv (W:World):VIn (ZQi W) W:=λ_ _ h=>h
def Zqb (P:Program) (t:TypeId) {α:Type} (A:Rep α):Prop:=∀ (H:Type) (enc:TypeId×Value→H) (W:World) (fuel:Nat) (cs:List Value) (x:DataW H×List MemPlace),
 DataW.trod enc P W 0 (λ_=>true) true fuel t cs=some x→∃ a,A.rel (ZQi W) cs a
theorem Zvm {P:Program} {t:TypeId} {k:IntKind} (ht:P.underlying t=some (.int k)):Zqb P t (Zd k):=by
 intro H enc W fuel cs x h
 cases fuel with
 | zero=>simp[DataW.trod]at h
 | succ n =>
  unfold DataW.trod at h;rw[ht]at h;split at h <;> simp_all;rename_i k2 z heq;obtain⟨⟨rfl,hw⟩,_⟩:=h;refine⟨z,rfl,?_⟩;simp only[Lit.wf,Bool.and_eq_true,decide_eq_true_eq]at hw;exact hw
theorem ZQv {P:Program} {t:TypeId} {f0 f1:Field} {α β:Type} {A:Rep α} {B:Rep β} (ht:P.underlying t=some (.struct #[f0,f1])) (hA:Zqb P f0.type A) (hB:Zqb P f1.type B)
  (o0:f0.offset=0) (c0:P.cellsOf f0.type=A.n) (o1:f1.offset=A.n) (c1:P.cellsOf f1.type=B.n) (ct:P.cellsOf t=A.n+B.n):Zqb P t (ZD A B):=by
 intro H enc W fuel cs x h;obtain⟨y0,y1,n,_,hl,h0,h1⟩:=trod_struct2 ht h;rw[o0,c0,List.drop_zero]at h0;rw[o1,c1]at h1;obtain⟨a,ha⟩:=hA _ _ _ _ _ _ h0;obtain⟨b,hb⟩:=hB _ _ _ _ _ _ h1;rw[List.take_of_length_le (by rw[List.length_drop,hl,ct];omega)]at hb;exact⟨(a,b),cs.take A.n,cs.drop A.n,(List.take_append_drop _ _).symm,ha,hb⟩
theorem Z6w {W:World} {b o n:Nat} {c:Array Value} {T:TypeId} {fr:Nat×Nat} {cs:List Value} (hg:W.heap[b]? = some (.cells c T fr)) (h:W.cells? 0 ⟨b,o,none⟩ n=some cs):cs=(c.toList.drop o).take n:=by
 obtain⟨_,hlen,hc⟩:=World.cells?_some h;apply List.ext_getElem?;intro j;by_cases hj:j<n
 ·have h1:=hc j (by omega);rw[ZLb]at h1;simp only[World.cell?,hg,Option.isSome_none,Bool.false_eq_true,if_false]at h1;rw[List.getElem?_take_of_lt hj,List.getElem?_drop]
  simpa using h1.symm
 ·rw[List.getElem?_eq_none (by omega),List.getElem?_take_eq_none (by omega)]
theorem ZLl {P:Program} {t e:TypeId} {α:Type} {A:Rep α} (ht:P.underlying t=some (.slice e)) (hA:Zqb P e A) (ce:P.cellsOf e=A.n) (hn:0<A.n):Zqb P t (Zs A):=by
 intro H enc W fuel cs x h;rcases Go.Deep.open_slice ht h with ⟨rfl,_⟩ | ⟨a,len,cap,m,n,D,Pl,rfl,_,hl,hm,hmm,_,hx⟩
 ·exact⟨[],ZEf A _⟩
 ·rw[ce]at hx;have hlm:len≤m:=by rw[hmm];simp;omega
  by_cases h0:len=0
  ·subst h0;exact⟨[],some a,cap,rfl,hl,hm,.inl rfl⟩
  ·obtain⟨cs0,hc0,_⟩:=hx 0 (by omega);obtain⟨_,hlen0,hcell0⟩:=World.cells?_some hc0;have h00:=hcell0 0 (by omega);rw[List.getElem?_eq_getElem (by omega)]at h00;have hspot:=World.cell?_spot h00;obtain⟨b,off,spot⟩:=a;have hs:spot=none:=by simpa [Addr.add] using hspot
   subst hs;obtain⟨c,T,fr,hg⟩:∃ c T fr,W.heap[b]? = some (.cells c T fr):=by
    rw[ZLb,ZLb]at h00;simp only[World.cell?]at h00;split at h00
    ·rename_i c T fr hg;exact⟨c,T,fr,hg⟩
    ·cases h00
   have key:∀ k,k≤len→∃ l:List α,l.length=k∧A.rels (ZQi W) ((c.toList.drop off).take (k*A.n)) l:=by
    intro k
    induction k with
    | zero=>intro _;exact⟨[],rfl,by rw[Nat.zero_mul,List.take_zero];exact Zve⟩
    | succ k ih =>
     intro hk;obtain⟨l,hll,hr⟩:=ih (by omega);obtain⟨cs',hc',ht'⟩:=hx k (by omega);rw[ZLb]at hc';have e1:=Z6w hg hc';obtain⟨y,hy⟩:=hA _ _ _ _ _ _ ht';refine⟨l++[y],by simp[hll],?_⟩;have e2:(c.toList.drop off).take ((k+1)*A.n)=(c.toList.drop off).take (k*A.n)++cs':=by
      rw[e1,Nat.succ_mul,List.take_add,List.drop_drop]
     rw[e2];exact Zuc hr ⟨cs',[],by simp,hy,Zve⟩
   obtain⟨l,hll,hr⟩:=key len (Nat.le_refl _);subst hll;exact⟨l,some ⟨b,off,none⟩,cap,rfl,hl,hm,.inr ⟨b,off,c,T,fr,rfl,hg,hr⟩⟩
theorem Z1v {P:Program} {W:World} {base:Nat} {t e:TypeId} {v:Value} {α:Type} {A:Rep α} (hA:A.agg=false) (ht:P.underlying t=some (.slice e)) (hv:Value.okWide P W .any base t v):v=A.val v.cells.toList:=by
 unfold Rep.val;rw[hA];unfold Value.okWide at hv;rw[ht]at hv;simp only[Cell.okWide,ht]at hv
 cases v <;> first | rfl | (simp[Cell.ok,ht]at hv)
variable {H:Type} {enc:TypeId×Value→H} {P:Program}
theorem ZCq (hl:laidOutB P=true) {W W':World} (hb:Below W.heap.size W W') {sp:Nat→Bool}:∀ {ts:List TypeId} {vs:List Value} {ds:List (DataW H)} {ps:List MemPlace},(∀ t ∈ ts,P.readableRec t=true∧t<P.types.size) →
  DataW.TrodAll enc P W 0 (λ_=>true) true ts vs ds ps→(∀ x ∈ ps,x.block<W.heap.size∧sp x.block=true)→DataW.TrodAll enc P W' 0 sp true ts vs ds ps
 | [],[],[],ps,_,h,_=>h
 | t :: ts,v :: vs,d :: ds,ps,hr,h,hp=>by
  obtain⟨p,q,h1,h2,rfl⟩:=h
  exact⟨p,q,WideElems.Trod_stays hl (hr t (List.mem_cons_self ..)).1 (hr t (List.mem_cons_self ..)).2 h1 (λx hx=>hb.same (hp x (List.mem_append_left _ hx)).1) (λx hx=>(hp x (List.mem_append_left _ hx)).2),
   ZCq hl hb (λt' ht'=>hr t' (List.mem_cons_of_mem _ ht')) h2 (λx hx=>hp x (List.mem_append_right _ hx)),rfl⟩
theorem Zxz {f:Func} {s:ChangeSpec} {apart fresh handsOn again:Bool} {W W':World} {args:Array Value} {ds gs:List (DataW H)} {before:List MemPlace} {tb:TypeId}
  (hl:laidOutB P=true) (hr:∀ t ∈ f.params.toList,P.readableRec t=true∧t<P.types.size) (htb:P.underlying tb=some .bool) (hres:f.resultTypes = #[tb]) (hsv:s.vars=[]) (hsg:(s.fn H (ds++gs)).vars=[])
  (hs1:(s.fn H (ds++gs)).results=[.lit (.bool true)]) (hs2:(s.fn H (ds++gs)).args=ds)
  (hW:DataW.Whole enc P f.params.toList s.vars apart W args.toList ds gs before) (hb:Below W.heap.size W W'):s.post enc P f apart fresh handsOn again W args (.bool true) W':=by
 have hW':=hW;obtain⟨p,q,hA,hV,rfl,hz,hn⟩:=hW;have hlt:∀ x ∈ p++q,x.block<W.heap.size:=λx hx=>hW'.lt x hx;rw[hsv]at hV;obtain⟨rfl,rfl⟩:=trodVars_none hV;have hold:∀ x ∈ p++[],(λb=>decide (b<W.heap.size)) x.block=true:=λx hx=>by simpa using hlt x hx
 have hargs:∀ sp:Nat→Bool,(∀ x ∈ p++[],sp x.block=true)→DataW.TrodAll enc P W' 0 sp true f.params.toList args.toList (s.fn H (ds++[])).args p:=λsp hsp=>by
  rw[hs2];exact ZCq hl hb hr hA (λx hx=>⟨hlt x (List.mem_append_left _ hx),hsp x (List.mem_append_left _ hx)⟩)
 have hvars:∀ sp:Nat→Bool,DataW.TrodVars enc P W' sp s.vars (s.fn H (ds++[])).vars []:=λsp=>by rw[hsv,hsg];rfl
 have hresult:∀ (b:Nat) (sp:Nat→Bool) (hd:Bool),DataW.TrodAll enc P W' b sp hd f.resultTypes.toList ((Value.bool true).resultList f.resultTypes.size) (s.fn H (ds++[])).results []:=λb sp hd=>by
  rw[hres,hs1];exact trodAll_mk1 (shut_bool htb _)
 have hok:∀ (j:Nat) (t:TypeId) (r:Value),f.resultTypes[j]? = some t→((Value.bool true).resultList f.resultTypes.size)[j]? = some r→Value.okWide P W' .any 0 t r:=ok_one hres rfl (okWide_bool_mk htb _);refine⟨ds,[],p++[],[],p,[],hW',hresult _ _ _,hargs _ hold,hvars _,World.keptBut_mono (λx hx=>⟨hx,?_⟩) (hb.frame (· ∈ p++[])),λ_=>?_⟩
 ·simpa using hx
 ·refine⟨hok,_,_,([]++p)++[],⟨[]++p,[],trodAll_append (hargs _ (λ_ _=>rfl)) (hresult _ _ _),hvars _,rfl,?_,?_⟩,?_⟩
  ·intro b off hp;have hin:MemPlace.cell b off ∈ p++[]:=by simpa using hp
   rw[hb.frozen (hlt _ hin)];exact hz b off hin
  ·intro ha;have:=hn ha
   simpa using this
  ·intro x hx _
   simpa using hx
end Go.Eng
namespace Go.Eng
open Go.RowKit Go.WideShapes Go.ChangeShapes
def ZXr (P:Program) (t:TypeId) {α:Type} (A:Rep α) (S:α→Prop):Prop:=∀ (H:Type) (enc:TypeId×Value→H) (W:World) (fuel:Nat) (cs:List Value) (x:DataW H×List MemPlace),
 DataW.trod enc P W 0 (λ_=>true) true fuel t cs=some x→∃ a,A.rel (ZQi W) cs a∧((∀ n ∈ x.1.weights P t,n≤reachBytes)→S a)
theorem ZFz {P:Program} {t e:TypeId} {α:Type} {A:Rep α} (ht:P.underlying t=some (.slice e)) (hA:Zqb P e A) (ce:P.cellsOf e=A.n) (hn:0<A.n) {b:Nat} (hb:P.bytesOf e=b):ZXr P t (Zs A) (λl=>l.length*b≤reachBytes):=by
 intro H enc W fuel cs x h;obtain⟨l,hl⟩:=ZLl ht hA ce hn _ _ _ _ _ _ h;refine⟨l,hl,λhw=>?_⟩;obtain⟨q,cap,hc,_⟩:=ZFe hl;rcases Go.Deep.open_slice ht h with ⟨rfl,_⟩ | ⟨a,len,cp,m,n,D,Pl,rfl,_,_,_,_,rfl,_⟩
 ·injection hc with hc _
  injection hc with _ h2 _
  rw[← h2,Nat.zero_mul];exact Nat.zero_le _
 ·injection hc with hc _
  injection hc with _ h2 _
  have:=hw ((((List.range len).map D).length+((List.range (m-len)).map λj=>D (len+j)).length)*P.bytesOf e) (by simp only[DataW.weights,ht];exact List.mem_cons_self);rw[List.length_map,List.length_range,hb]at this;subst h2;exact Nat.le_trans (mR _ (Nat.le_add_right _ _)) this
theorem Zlw {H:Type} {P:Program} {ts:List TypeId} {ds:List (DataW H)} (h:(DataW.weightsEach P ts ds).all (·≤reachBytes)=true) {j:Nat} {t:TypeId} {d:DataW H} (ht:ts[j]? = some t) (hd:ds[j]? = some d):∀ n ∈ d.weights P t,n≤reachBytes:=λn hn=>by
 have:=List.all_eq_true.1 h n (DataW.weights_mem_each ht hd n hn)
 simpa using this
def Zda (n:Nat):Prop:=(Zc 4294967296 n).length≤137438953472
instance (n:Nat):Decidable (Zda n):=inferInstanceAs (Decidable (_≤_))
def ZBb (a:List Int):Option Nat:=some (val 4294967296 a)
def Zpd (n:Int):Option Nat:=some n.toNat
def Z7d (n m:Nat):Option Int:=some (ZKa n m)
def Z2d (n m:Nat):Option Nat:=if Zda n∧m≤n then some (n-m) else none
def Zsg (n m:Nat):Option Nat:=if Zda n∧Zda m then some (n*m) else none
def Z8f (n:Nat):Option Int:=if Zda n then some (bl n) else none
def ZXd (n:Nat) (k:Int):Option Nat:=if Zda n∧0≤k∧k≤1099511627776 then some (n*2^k.toNat) else none
def Zng (n:Nat) (k:Int):Option Nat:=if Zda n∧0≤k then some (n / 2^k.toNat) else none
def ZOe (n:Nat) (d:Int):Option (Nat×Int):=if Zda n∧0<d then some (n / d.toNat,((n%d.toNat:Nat):Int)) else none
def ZWd (n:Int):Option Rat:=some (n:Rat)
def Z9g (x:Rat):Option Nat:=some x.den
def ZN (n:Nat):List UInt8:=if h:n=0 then [] else ZN (n / 10)++[UInt8.ofNat (48+n%10)]
termination_by n
decreasing_by omega
def ZU (n:Nat):List UInt8:=if n=0 then [48] else ZN n
def ZBg (n:Int):Option (List UInt8):=some (ZN n.toNat)
def ZLa (x:Rat):List UInt8:=(if x.num<0 then [45] else [])++ZU x.num.natAbs++(if x.den=1 then [] else 47 :: ZU x.den)
def ZDf (r:Int×Int):Rat:=if r.2=0 then (r.1:Rat) else Rat.divInt r.1 r.2
def ZZg (r:Int×Int):Option Rat:=some (ZDf r)
def ZTe (x:Rat):Option Bool:=some (decide (x=0))
def ZOg (x:Rat):Option Int:=some x.num.sign
def ZTh (n d:Int):Option (Rat×Int):=some (if d=0 then (0,3) else (Rat.divInt n d,0))
def rofF (r:Int×Int):Option Rat:=some (ZDf r)
def smQ (x:Rat):Prop:=bl x.num.natAbs≤68719476736∧bl x.den≤68719476736
instance (x:Rat):Decidable (smQ x):=inferInstanceAs (Decidable (_∧_))
noncomputable def ZFo (a:(List Int)):Option (Bool) :=
 bnd (ifb (((a.length:Int))==(1:Int))
 (bnd (idx a (0:Int)) λb =>
 some (b==(1:Int)))
 (some false))
 (λ(c:Bool) =>
 (some c))
noncomputable def cut_m (a:(List Int)):Option ((List Int)) :=
 bnd (bnd (Zi (λs:(List Int)=>match s with
| b =>
 (bnd (ifb (decide ((0:Int)<(b.length:Int)))
 (bnd (chk .i64 (((b.length:Int))-(1:Int))) λc =>
 bnd (idx b c) λd =>
 some (d==(0:Int)))
 (some false))
 (λ(e:Bool) =>
 (ifb (e)
 (bnd (chk .i64 (((b.length:Int))-(1:Int))) λf =>
 bnd (ZI b (0:Int) f) λg =>
 some (.inl g))
 (some (.inr b)))))) Zm a)
 (λ(h:(List Int)) =>
 (some h)))
 (λ(i:(List Int)) =>
 (some i))
noncomputable def cmp_m (a:(List Int)) (b:(List Int)):Option (Int) :=
 ifb (((a.length:Int)) != ((b.length:Int)))
 (ifb (decide ((a.length:Int)<(b.length:Int)))
 (some (-1:Int))
 (some (1:Int)))
 (bnd (chk .i64 (((a.length:Int))-(1:Int))) λd =>
 bnd (bnd (Zi (λs:Int=>match s with
| c =>
 (ifb (decide ((0:Int)≤c))
 (bnd (idx a c) λe =>
 bnd (idx b c) λf =>
 ifb (decide (e<f))
 (some (.inr ((.inl (-1:Int)))))
 (bnd (idx a c) λg =>
 bnd (idx b c) λh =>
 ifb (decide (h<g))
 (some (.inr ((.inl (1:Int)))))
 (bnd (chk .i64 (c-(1:Int))) λi =>
 some (.inl i))))
 (some (.inr ((.inr (()))))))) Zm d)
 (λ(p:(Int) ⊕ (Unit))=>match p with
| .inl j =>
 (some ((.inr j)))
| .inr (()) =>
 (some ((.inl (()))))))
 (λ(p:(Unit) ⊕ (Int))=>match p with
| .inl (()) =>
 (some (0:Int))
| .inr k =>
 (some k)))
noncomputable def ZLm (a:Nat) (b:Nat):Option (Int) :=
 bnd (ifb (decide ((0:Int)<(((Zc 18446744073709551616 a)).length:Int)))
 (bnd (idx ((Zc 18446744073709551616 a)) (0:Int)) λe =>
 some e)
 (some (0:Int)))
 (λ(f:Int) =>
 (bnd (idx ((Zc 18446744073709551616 b)) (0:Int)) λg =>
 bnd (bnd (Zi (λs:Int×Int=>match s with
| (d,c) =>
 (ifb (decide ((0:Int)<c))
 (bnd (rem .u64 d c) λh =>
 some (.inl ((c,h))))
 (some (.inr d)))) Zm ((f,g)))
 (λ(i:Int) =>
 (some i)))
 (λ(j:Int) =>
 (some j))))
theorem Zzu {n:Nat}:ZFo (Zc 18446744073709551616 n)=some (decide (n=1)):=by
 unfold ZFo;by_cases h:n=1
 ·subst h;rw[ZUj (by omega) (by decide)];rfl
 ·by_cases h0:n=0
  ·subst h0;rw[Z5];rfl
  ·rw[Zyc (by decide) h0];by_cases h2:n / 18446744073709551616=0
   ·rw[h2,Z5];have:n%18446744073709551616=n:=Nat.mod_eq_of_lt (by have:=Nat.mod_add_div n 18446744073709551616;rw[h2]at this;have:=Nat.mod_lt n (show 0<18446744073709551616 by decide);omega);simp[ifb,bnd,idx,this,h];omega
   ·have h3:Zc 18446744073709551616 (n / 18446744073709551616)≠[]:=λe=>h2 ((Zeg (by decide)).1 e);have h4:0<(Zc 18446744073709551616 (n / 18446744073709551616)).length:=List.length_pos_iff.2 h3;have h5:((((n%18446744073709551616:Nat):Int) :: Zc 18446744073709551616 (n / 18446744073709551616)).length:Int)==1↔False:=by
     simp only[List.length_cons,beq_iff_eq,iff_false];omega
    have h6:(((((n%18446744073709551616:Nat):Int) :: Zc 18446744073709551616 (n / 18446744073709551616)).length:Int)==1)=false:=by simpa using h5
    rw[h6];simp[ifb,bnd,h]
theorem cut_eq {a:List Int} (ha:Dig 18446744073709551616 a) (hl:a.length≤9223372036854775807):cut_m a=some (Zc 18446744073709551616 (val 18446744073709551616 a)):=by
 unfold cut_m;rw[Zjk (r:=Zc 18446744073709551616 (val 18446744073709551616 a)) (λs=>Dig 18446744073709551616 s∧s.length≤9223372036854775807∧val 18446744073709551616 s=val 18446744073709551616 a) List.length ⟨ha,hl,rfl⟩ (ZX (by omega)) ?_]
 ·rfl
 ·rintro s ⟨h1,h2,h3⟩;by_cases h0:s=[]
  ·subst h0;right;rw[← h3];show some (Sum.inr [])=_;rw[show val 18446744073709551616 []=0 from rfl,Z5]
  ·have hp:0<s.length:=List.length_pos_iff.2 h0;have e1:decide ((0:Int)<(s.length:Int))=true:=dT (by omega);have e2:chk .i64 ((s.length:Int)-1)=some ((s.length-1:Nat):Int):=by
    rw[Zv (by omega) (by omega)];congr 1;omega
   have e3:idx s ((s.length-1:Nat):Int)=some (s[s.length-1]'(by omega)):=Zn (by omega);simp only[e1,Zf,e2,Za,e3];by_cases hz:s[s.length-1]'(by omega)=0
   ·left;have e4:((s[s.length-1]'(by omega))==0)=true:=by simp[hz]
    simp only[e4,Zf];have e5:ZI s 0 ((s.length-1:Nat):Int)=some (s.take (s.length-1)):=by
     unfold ZI;rw[iP ⟨by omega,by omega,by omega⟩];simp
    rw[e5];refine⟨_,rfl,⟨h1.take _,by simp;omega,?_⟩,by simp;omega⟩;have:=Zib (B:=18446744073709551616) (l:=s) (i:=s.length-1) (by omega);rw[hz]at this;have h4:s.length-1+1=s.length:=by omega
    rw[h4,List.take_length]at this;simp at this;omega
   ·right;have e4:((s[s.length-1]'(by omega))==0)=false:=by simp[hz]
    simp only[e4,Ze];have hc:Cut s:=by
     intro x hx;rw[List.getLast?_eq_getElem?,List.getElem?_eq_getElem (by omega)]at hx
     cases hx;exact hz
    rw[← h3,Zuf (by decide) h1 hc]
theorem Zwc {B n:Nat} (hB:2≤B):(Zc B n)≠[]↔n≠0:=not_congr (Zeg hB)
theorem Z2j {B n m:Nat} (hB:2≤B) (h:(Zc B n).length<(Zc B m).length):n<m:=by
 have h1:=Zcc hB n;have hm:m≠0:=by rintro rfl;rw[Z5]at h;simp at h
 have h2:=Zgh hB hm;have h3:B^(Zc B n).length≤B^((Zc B m).length-1):=Nat.pow_le_pow_right (by omega) (by omega);omega
theorem ZXi {B:Nat} {a b:List Int} (ha:Dig B a) (hb:Dig B b) {i:Nat} (hl:a.length=b.length) (hi:i<a.length) (he:a.drop (i+1)=b.drop (i+1)) (h:a[i]<b[i]'(by omega)):val B a<val B b:=by
 rw[Zhd B a (i+1) (by omega),Zhd B b (i+1) (by omega),he,Zib hi,Zib (by omega:i<b.length)];have h1:=Z9c (ha.take i);rw[List.length_take,Nat.min_eq_left (by omega)]at h1;have h2:=ha.get hi;have h3:=hb.get (i:=i) (by omega);have h4:B^i*(a[i].toNat+1)≤B^i*(b[i]'(by omega)).toNat:=Nat.mul_le_mul_left _ (by omega);rw[Nat.mul_add]at h4;omega
theorem cmp_eq {n m:Nat} (h1:(Zc 18446744073709551616 n).length≤9223372036854775807) (h2:(Zc 18446744073709551616 m).length≤9223372036854775807):cmp_m (Zc 18446744073709551616 n) (Zc 18446744073709551616 m)=some (ZKa n m):=by
 unfold cmp_m;by_cases hl:(Zc 18446744073709551616 n).length=(Zc 18446744073709551616 m).length
 ·have e0:(((Zc 18446744073709551616 n).length:Int) != ((Zc 18446744073709551616 m).length:Int))=false:=by simp[hl]
  rw[e0,Ze];rw[Zv (by omega) (by omega),Za];have hd:=ZFa (B:=18446744073709551616) (by decide) n;have hd':=ZFa (B:=18446744073709551616) (by decide) m;have hvn:=Zma (B:=18446744073709551616) (by decide) n;have hvm:=Zma (B:=18446744073709551616) (by decide) m;generalize Zc 18446744073709551616 n=a at *;generalize Zc 18446744073709551616 m=b at *;rw[Zjk (r:=if n<m then .inl (-1) else if m<n then .inl 1 else .inr ()) (λs:Int=>-1≤s∧s<a.length∧a.drop (s+1).toNat=b.drop (s+1).toNat) (λs=>(s+1).toNat) ⟨by omega,by omega,?_⟩ (ZX (by omega)) ?_]
  ·rw[Za];unfold ZKa;by_cases hlt:n<m
   ·simp only[iP hlt];rfl
   ·by_cases hgt:m<n
    ·simp only[iN hlt,iP hgt];rfl
    ·simp only[iN hlt,iN hgt];rfl
  ·rw[List.drop_eq_nil_of_le (by omega),List.drop_eq_nil_of_le (by omega)]
  ·rintro s ⟨h3,h4,h5⟩;by_cases hs:0≤s
   ·obtain⟨i,rfl⟩:=oZ hs;have hi:i<a.length:=by omega
    have hi':i<b.length:=by omega
    have e1:decide ((0:Int)≤(i:Int))=true:=dT hs;simp only[e1,Zf,Zn hi,Zn hi',Za];have ei:((i:Int)+1).toNat=i+1:=by omega
    rw[ei]at h5;by_cases hlt:a[i]<b[i]
    ·right;have:=ZXi hd hd' hl hi h5 hlt;rw[dT hlt,Zf,iP (by omega)]
    ·by_cases hgt:b[i]<a[i]
     ·right;have:=ZXi hd' hd hl.symm hi' h5.symm hgt;rw[dFq hlt,Ze,dT hgt,Zf,iN (by omega),iP (by omega)]
     ·left;rw[dFq hlt,Ze,dFq hgt,Ze,Zv (by omega) (by omega),Za];refine⟨_,rfl,⟨by omega,by omega,?_⟩,by simp⟩;have e2:((i:Int)-1+1).toNat=i:=by omega
      rw[e2,List.drop_eq_getElem_cons hi,List.drop_eq_getElem_cons hi',h5];congr 1;omega
   ·right;have:s = -1:=by omega
    subst this;simp at h5;have:n=m:=by rw[← hvn,← hvm,h5]
    subst this;simp[ifb]
 ·have e0:(((Zc 18446744073709551616 n).length:Int) != ((Zc 18446744073709551616 m).length:Int))=true:=by simp;omega
  rw[e0,Zf];by_cases hlt:(Zc 18446744073709551616 n).length<(Zc 18446744073709551616 m).length
  ·have:=Z2j (by decide) hlt;rw[dT (by omega),Zf];simp[ZKa,this]
  ·have:=Z2j (B:=18446744073709551616) (n:=m) (m:=n) (by decide) (by omega);rw[dFq (by omega),Ze];have h5:¬ n<m:=by omega
   simp[ZKa,this,h5]
theorem Zin {B n:Nat} (hB:2≤B) (h0:n≠0) (h:n<B):idx (Zc B n) 0=some (n:Int):=by rw[ZUj h0 h];rfl
theorem ZOv {n m:Nat} (hn:n<18446744073709551616) (hm:m<18446744073709551616) (h0:m≠0):ZLm n m=some ((Nat.gcd n m:Nat):Int):=by
 unfold ZLm;have e1:ifb (decide ((0:Int)<((Zc 18446744073709551616 n).length:Int))) (bnd (idx (Zc 18446744073709551616 n) 0) λy80=>some y80) (some 0)=some (n:Int):=by
  by_cases h:n=0
  ·subst h;rw[Z5];rfl
  ·rw[ZUj h hn];rfl
 rw[e1,Za,Zin (by decide) h0 hm,Za];rw[Zjk (r:=((Nat.gcd n m:Nat):Int)) (λs:Int×Int=>0≤s.1∧0≤s.2∧s.2<18446744073709551616∧Nat.gcd s.1.toNat s.2.toNat=Nat.gcd n m) (λs=>s.2.toNat) ⟨by simp,by simp,by simp;omega,by simp⟩ (ZX (by simp;omega)) ?_]
 ·rfl
 ·rintro⟨x,y⟩ ⟨h1,h2,h3,h4⟩;simp only at h1 h2 h3 h4 ⊢;by_cases hy:y=0
  ·right;subst hy;simp at h4;simp[ifb];omega
  ·left;rw[dT (by omega),Zf];have e2:rem .u64 x y=some (x.tmod y):=by unfold rem;rw[iN hy]
   rw[e2,Za];obtain⟨X,rfl⟩:=oZ h1;obtain⟨Y,rfl⟩:=oZ h2;have e3:(X:Int).tmod (Y:Int)=((X%Y:Nat):Int):=by simp[Int.tmod_eq_emod_of_nonneg]
   rw[e3];have hY:0<Y:=by omega
   have:=Nat.mod_lt X hY;refine⟨_,rfl,⟨by omega,by omega,by simp;omega,?_⟩,by simp;omega⟩;simp only[tN]at h4 ⊢;rw[← h4]
   conv=>rhs;rw[Nat.gcd_comm,Nat.gcd_rec,Nat.gcd_comm]
noncomputable def Znl (a:Nat) (b:Nat):Option (Nat) :=
 bnd (ifb (decide ((((Zc 18446744073709551616 a)).length:Int)<(((Zc 18446744073709551616 b)).length:Int)))
 (some ((b,a)))
 (some ((a,b))))
 (λ(p:Nat×Nat)=>match p with
| (d,h) =>
 (bnd (chk .i64 (((((Zc 18446744073709551616 d)).length:Int))+(1:Int))) λk =>
 bnd (mk 8 ((((Zc 18446744073709551616 d)).length:Int)) k) λv =>
 bnd (bnd (Zi (λs:(List Int)×Int×Int=>match s with
| (e,i,c) =>
 (ifb (decide (c<(((Zc 18446744073709551616 d)).length:Int)))
 (bnd (idx ((Zc 18446744073709551616 d)) c) λl =>
 bnd (ifb (decide (c<(((Zc 18446744073709551616 h)).length:Int)))
 (bnd (idx ((Zc 18446744073709551616 h)) c) λm =>
 some m)
 (some (0:Int)))
 (λ(n:Int) =>
 (bnd (ZEb l n i) λj =>
 bnd (idx e c) λw =>
 bnd (chk .i64 (c+(1:Int))) λo =>
 some (.inl (((e.set (c).toNat j.1),j.2,o))))))
 (some (.inr ((e,i)))))) Zm (((List.replicate ((((Zc 18446744073709551616 d)).length:Int)).toNat (0:Int)),(0:Int),(0:Int))))
 (λ(p:(List Int)×Int)=>match p with
| (q,r) =>
 (some ((q,r)))))
 (λ(p:(List Int)×Int)=>match p with
| (f,g) =>
 (bnd (ifb (decide ((0:Int)<g))
 (bnd (ZT 8 (f++[g])) λx =>
 some ((f++[g])))
 (some f))
 (λ(t:(List Int)) =>
 (bnd (clo t) λu =>
 some u))))))
noncomputable def Zfl (a:Nat) (b:Nat):Option (Nat) :=
 bnd (mk 8 ((((Zc 18446744073709551616 a)).length:Int)) ((((Zc 18446744073709551616 a)).length:Int))) λn =>
 bnd (bnd (Zi (λs:(List Int)×Int×Int=>match s with
| (d,f,c) =>
 (ifb (decide (c<(((Zc 18446744073709551616 a)).length:Int)))
 (bnd (idx ((Zc 18446744073709551616 a)) c) λg =>
 bnd (ifb (decide (c<(((Zc 18446744073709551616 b)).length:Int)))
 (bnd (idx ((Zc 18446744073709551616 b)) c) λh =>
 some h)
 (some (0:Int)))
 (λ(i:Int) =>
 (bnd (Zed g i f) λe =>
 bnd (idx d c) λo =>
 bnd (chk .i64 (c+(1:Int))) λj =>
 some (.inl (((d.set (c).toNat e.1),e.2,j))))))
 (some (.inr d)))) Zm (((List.replicate ((((Zc 18446744073709551616 a)).length:Int)).toNat (0:Int)),(0:Int),(0:Int))))
 (λ(k:(List Int)) =>
 (some k)))
 (λ(l:(List Int)) =>
 (bnd (ZSa l) λm =>
 some m))
theorem Zzy {P V Va Vb lo hi x y c B:Nat} (h:V+P*c=Va+Vb) (e:lo+B*hi=x+y+c):V+P*lo+P*B*hi=Va+P*x+(Vb+P*y):=by
 grind
theorem Z7k {P V Va Vb lo hi x y c B:Nat} (h:V+Vb=Va+P*c) (e:lo+y+c=x+B*hi):V+P*lo+(Vb+P*y)=Va+P*x+P*B*hi:=by
 grind
theorem ZLt {l:List Int} {B k:Nat} (hd:Dig B l) (hB:0<B):∃ y:Int,bnd (ifb (decide ((k:Int)<(l.length:Int))) (bnd (idx l (k:Int)) λy=>some y) (some 0)) (λx=>some x)=some y∧0≤y∧y<B∧val B (l.take (k+1))=val B (l.take k)+B^k*y.toNat ∧
  ∀ {α:Type} (f:Int→Option α),bnd (ifb (decide ((k:Int)<(l.length:Int))) (bnd (idx l (k:Int)) λy=>some y) (some 0)) f=f y:=by
 by_cases h:k<l.length
 ·have e:decide ((k:Int)<(l.length:Int))=true:=dT (by omega);refine⟨l[k],?_,(hd.get h).1,(hd.get h).2,Zib h,λf=>?_⟩
  ·rw[e,Zf,Zn h];rfl
  ·rw[e,Zf,Zn h];rfl
 ·have e:decide ((k:Int)<(l.length:Int))=false:=dFq (by omega);refine⟨0,?_,by omega,by omega,?_,λf=>?_⟩
  ·rw[e];rfl
  ·rw[List.take_of_length_le (by omega),List.take_of_length_le (by omega)];simp
  ·rw[e];rfl
theorem ZXt {l:List Int} {k:Nat} {x:Int} (h:k<l.length):(l.set k x).take (k+1)=l.take k++[x]:=by
 rw[List.take_set,List.take_succ_eq_append_getElem h,List.set_append_right _ _ (by simp;omega)];simp[List.length_take,Nat.min_eq_left (Nat.le_of_lt h)]
theorem ZRg {B:Nat} {l:List Int} {k:Nat} {x:Int} (h:k<l.length):val B ((l.set k x).take (k+1))=val B (l.take k)+B^k*x.toNat:=by
 rw[ZXt h,Z0c,List.length_take,Nat.min_eq_left (by omega)];simp[val]
theorem ZJh {x y c:Int} (hx:0≤x) (hy:0≤y) (hc:0≤c) (hc':c≤1):ZEb x y c=some ((x+y+c)%18446744073709551616,(x+y+c) / 18446744073709551616):=by
 unfold ZEb;rw[iP ⟨hx,hy,hc,hc'⟩]
theorem ZCr {x y c:Int} (hx:0≤x) (hy:0≤y) (hc:0≤c) (hc':c≤1):Zed x y c=some ((x-y-c)%18446744073709551616,if x<y+c then 1 else 0):=by
 unfold Zed;rw[iP ⟨hx,hy,hc,hc'⟩]
theorem ZNc {b:Nat} {l c:Int} (h0:0≤l) (h1:l≤c) (h2:(b:Int)*c≤281474976710656) (h3:c≤9223372036854775807):∃ u,mk b l c=some u:=by
 unfold mk;rw[iP ⟨h0,h1,h2,h3⟩];exact⟨_,rfl⟩
theorem plus_eq {n m:Nat} (hn:okN n) (hm:okN m):Znl n m=some (n+m):=by
 unfold Znl;obtain⟨x,y,e,hx,hy,hxy,hl⟩:∃ x y:Nat,ifb (decide ((((Zc 18446744073709551616 n)).length:Int)<(((Zc 18446744073709551616 m)).length:Int))) (some (m,n)) (some (n,m))=some (x,y)∧okN x∧okN y∧x+y=n+m ∧
   (Zc 18446744073709551616 y).length≤(Zc 18446744073709551616 x).length:=by
  by_cases h:(Zc 18446744073709551616 n).length<(Zc 18446744073709551616 m).length
  ·exact⟨m,n,by rw[dT (by omega)];rfl,hm,hn,by omega,by omega⟩
  ·exact⟨n,m,by rw[dFq (by omega)];rfl,hn,hm,rfl,by omega⟩
 rw[e,Za,← hxy];simp only;have hdx:=ZFa (B:=18446744073709551616) (by decide) x;have hdy:=ZFa (B:=18446744073709551616) (by decide) y;have hvx:=Zma (B:=18446744073709551616) (by decide) x;have hvy:=Zma (B:=18446744073709551616) (by decide) y;have hcx:=ZRj (B:=18446744073709551616) (by decide) x;have hcy:=ZRj (B:=18446744073709551616) (by decide) y;unfold okN at hx hy;generalize Zc 18446744073709551616 x=a at *;generalize Zc 18446744073709551616 y=b at *;rw[Zv (by omega) (by omega),Za];obtain⟨u,hu⟩:=ZNc (b:=8) (l:=(a.length:Int)) (c:=(a.length:Int)+1) (by omega) (by omega) (by omega) (by omega);rw[hu,Za,Zca];refine Zwa (λs:(List Int)×Int×Int=>∃ k:Nat,s.2.2=(k:Int)∧k≤a.length∧s.1.length=a.length∧Dig 18446744073709551616 s.1∧0≤s.2.1∧s.2.1≤1 ∧
  val 18446744073709551616 (s.1.take k)+18446744073709551616^k*s.2.1.toNat=val 18446744073709551616 (a.take k)+val 18446744073709551616 (b.take k)) (λs=>a.length-s.2.2.toNat)
  (λr:List Int×Int=>r.1.length=a.length∧Dig 18446744073709551616 r.1∧0≤r.2∧r.2≤1∧val 18446744073709551616 r.1+18446744073709551616^a.length*r.2.toNat=x+y)
  ⟨0,rfl,by omega,by simp,Dig.replicate _ (by omega),Int.le_refl _,(by show (0:Int)≤1;omega),by simp[val]⟩ (ZX (by simp;omega)) ?_ ?_
 ·rintro⟨out,c,i⟩ ⟨k,rfl,hk,ho,hd,hc,hc',hv⟩;simp only at ho hd hc hc' hv ⊢;by_cases hlt:k<a.length
  ·left;rw[dT (by omega),Zf,Zn hlt,Za];obtain⟨y,_,hy,hy',hvb,hf⟩:=ZLt (k:=k) hdy (by decide);rw[hf,ZJh (hdx.get hlt).1 hy hc hc',Za,Zn (by omega),Za,Zv (by omega) (by omega),Za];have hx:=hdx.get hlt;refine⟨_,rfl,⟨k+1,by simp,by omega,by simp[ho],?_,by simp;omega,by simp;omega,?_⟩,by simp;omega⟩
   ·exact hd.set _ (by omega)
   ·simp only[tN];rw[ZRg (by omega),Zib hlt,hvb,Nat.pow_succ];exact Zzy hv (by omega)
  ·right;rw[dFq (by omega),Ze];refine⟨_,rfl,ho,hd,hc,hc',?_⟩;have hk':k=a.length:=by omega
   subst hk';rw[← hvx,← hvy]
   simpa [List.take_of_length_le,ho,hl] using hv
 ·rintro⟨out,c⟩ ⟨ho,hd,hc,hc',hv⟩;simp only at ho hd hc hc' hv ⊢;rw[Za];simp only;rw[← hv];by_cases h0:0<c
  ·have hc1:c=1:=by omega
   subst hc1;rw[dT (by omega),Zf];have hr:ZT 8 (out++[(1:Int)])=some ():=by unfold ZT;rw[iP (by simp;omega)]
   rw[hr,Za,Za,Zqt (Dig.append.2 ⟨hd,Dig.cons.2 ⟨by omega,Dig.nil⟩⟩) (by intro x hx;simp at hx;omega),Za,Z0c,ho];simp[val]
  ·have hc1:c=0:=by omega
   subst hc1;rw[dFq (by omega),Ze,Za];have hcut:Cut out:=by
    intro z hz h0;subst h0;have hne:out≠[]:=by rintro rfl;cases hz
    have hpos:0<out.length:=List.length_pos_iff.2 hne;have h1:val 18446744073709551616 out<18446744073709551616^(a.length-1):=by
     rw[List.getLast?_eq_getElem?,List.getElem?_eq_getElem (by omega)]at hz;have h2:=Zib (B:=18446744073709551616) (l:=out) (i:=out.length-1) (by omega);rw[Option.some.inj hz]at h2;have h3:out.length-1+1=out.length:=by omega
     rw[h3,List.take_length]at h2;have h4:=Z9c (hd.take (out.length-1));rw[List.length_take,Nat.min_eq_left (by omega),ho]at h4;simp at h2;rw[h2,ho];exact h4
    have h5:x≠0:=by
     rintro rfl;rw[← Zuf (by decide) hdx hcx,hvx,Z5]at ho;simp at ho;exact hne ho
    have h6:=Zgh (B:=18446744073709551616) (by decide) h5;rw[← hvx,Zuf (by decide) hdx hcx,hvx]at h6;simp at hv;omega
   rw[Zqt hd hcut,Za];simp
theorem ZRc {B n m:Nat} (hB:2≤B) (h:n≤m):(Zc B n).length≤(Zc B m).length:=by
 apply Zlf hB;exact Nat.lt_of_le_of_lt h (Zcc hB m)
theorem Zuv {n m:Nat} (hn:okN n) (hm:m≤n):Zfl n m=some (n-m):=by
 unfold Zfl;have hl:=ZRc (B:=18446744073709551616) (by decide) hm;have hdx:=ZFa (B:=18446744073709551616) (by decide) n;have hdy:=ZFa (B:=18446744073709551616) (by decide) m;have hvx:=Zma (B:=18446744073709551616) (by decide) n;have hvy:=Zma (B:=18446744073709551616) (by decide) m;unfold okN at hn;generalize Zc 18446744073709551616 n=a at *;generalize Zc 18446744073709551616 m=b at *;obtain⟨u,hu⟩:=ZNc (b:=8) (l:=(a.length:Int)) (c:=(a.length:Int)) (by omega) (by omega) (by omega) (by omega);rw[hu,Za,Zca];refine Zwa (λs:(List Int)×Int×Int=>∃ k:Nat,s.2.2=(k:Int)∧k≤a.length∧s.1.length=a.length∧Dig 18446744073709551616 s.1∧0≤s.2.1∧s.2.1≤1 ∧
  val 18446744073709551616 (s.1.take k)+val 18446744073709551616 (b.take k)=val 18446744073709551616 (a.take k)+18446744073709551616^k*s.2.1.toNat) (λs=>a.length-s.2.2.toNat)
  (λr:List Int=>r.length=a.length∧Dig 18446744073709551616 r∧val 18446744073709551616 r=n-m)
  ⟨0,rfl,by omega,by simp,Dig.replicate _ (by omega),Int.le_refl _,(by show (0:Int)≤1;omega),by simp[val]⟩ (ZX (by simp;omega)) ?_ ?_
 ·rintro⟨out,c,i⟩ ⟨k,rfl,hk,ho,hd,hc,hc',hv⟩;simp only at ho hd hc hc' hv ⊢;by_cases hlt:k<a.length
  ·left;rw[dT (by omega),Zf,Zn hlt,Za];obtain⟨y,_,hy,hy',hvb,hf⟩:=ZLt (k:=k) hdy (by decide);have hx:=hdx.get hlt;rw[hf,ZCr (hdx.get hlt).1 hy hc hc',Za,Zn (by omega),Za,Zv (by omega) (by omega),Za];refine⟨_,rfl,⟨k+1,by simp,by omega,by simp[ho],?_,by simp only;split <;> omega,by simp only;split <;> omega,?_⟩,by simp;omega⟩
   ·exact hd.set _ (by omega)
   ·simp only[tN];rw[ZRg (by omega),Zib hlt,hvb,Nat.pow_succ];refine Z7k hv ?_;split <;> omega
  ·right;rw[dFq (by omega),Ze];refine⟨_,rfl,ho,hd,?_⟩;have hk':k=a.length:=by omega
   subst hk';simp[List.take_of_length_le,ho,hl,hvx,hvy]at hv;have hlt2:=Z9c hd;rw[ho]at hlt2;have:c.toNat=0:=by
    have h1:c=0∨c=1:=by omega
    rcases h1 with rfl | rfl
    ·rfl
    ·simp at hv;omega
   rw[this]at hv;omega
 ·rintro out ⟨ho,hd,hv⟩;rw[Za];unfold ZSa;rw[hv,Za]
theorem ZEy {n m z:Nat} (h:Zyf n m=some z):Znl n m=some z:=by
 unfold Zyf at h;split at h
 ·rename_i hh;rw[plus_eq hh.1 hh.2,h]
 ·cases h
theorem ZFx {n m z:Nat} (h:ZNg n m=some z):Zfl n m=some z:=by
 unfold ZNg at h;split at h
 ·rename_i hh;rw[Zuv hh.1 hh.2,h]
 ·cases h
theorem Zzx {n m:Nat} {z:Int} (h:Zcg n m=some z):ZLm n m=some z:=by
 unfold Zcg at h;split at h
 ·rename_i hh;rw[ZOv hh.1 hh.2.1 hh.2.2,h]
 ·cases h
noncomputable def ZKl (x:Int) (y:Int):Option (Int×Int) :=
 bnd (ZW .u64 x (32:Int)) λa =>
 bnd (ZW .u64 y (32:Int)) λb =>
 bnd (ZW .u64 (IntKind.u64.wrap ((ZEa .u64 x (4294967295:Int))*(ZEa .u64 y (4294967295:Int)))) (32:Int)) λc =>
 bnd (ZW .u64 (IntKind.u64.wrap ((IntKind.u64.wrap (a*(ZEa .u64 y (4294967295:Int))))+c)) (32:Int)) λd =>
 bnd (ZW .u64 (IntKind.u64.wrap ((ZEa .u64 (IntKind.u64.wrap ((IntKind.u64.wrap (a*(ZEa .u64 y (4294967295:Int))))+c)) (4294967295:Int))+(IntKind.u64.wrap ((ZEa .u64 x (4294967295:Int))*b)))) (32:Int)) λe =>
 some ((IntKind.u64.wrap ((IntKind.u64.wrap ((IntKind.u64.wrap (a*b))+d))+e),IntKind.u64.wrap (x*y)))
end Go.Eng
