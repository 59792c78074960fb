/- Lemmas towards the statement: the engine of the walks, the functions' models, laws and walks, part 1. Conditions: as each states. -/
import Derived.Deep.Slices
import Derived.Laws.BytesArg
import Derived.Laws.Concat
import Derived.Laws.Externs
import Derived.Laws.IdiomStrings
import Derived.Laws.Strings3
import Derived.Laws.StructEq
import Derived.MapKept
import Derived.OpenShut
import Derived.ProofKit
import Derived.StillTail
import Derived.WalkKit
set_option linter.all false
set_option maxRecDepth 100000
namespace Go.Eng
theorem dF {p : Prop} [Decidable p] (h : ¬p) : decide p = false := decide_eq_false h
theorem dT {p : Prop} [Decidable p] (h : p) : decide p = true := decide_eq_true h
theorem iP {c : Prop} {h : Decidable c} (k : c) {α : Sort _} {t e : α} : ite c t e = t := if_pos k
theorem iN {c : Prop} {h : Decidable c} (k : ¬c) {α : Sort _} {t e : α} : ite c t e = e := if_neg k
theorem mG {α : Type _} {l : List α} {i : Nat} {a : α} (e : l[i]? = some a) : a ∈ l := List.mem_of_getElem? e
theorem lB {n m : Nat} (h : Nat.ble n m = true) : n ≤ m := Nat.le_of_ble_eq_true h
theorem aA {α : Type _} (a b c : List α) : a ++ b ++ c = a ++ (b ++ c) := List.append_assoc a b c
theorem lA {α : Type _} {a b : List α} : (a ++ b).length = a.length + b.length := List.length_append
theorem eQ {n m : Nat} (h : Nat.beq n m = true) : n = m := Nat.eq_of_beq_eq_true h
end Go.Eng
namespace Go.Eng
open Go.RowKit
def Za:=Nat→Option Obj
def Za.le (v v':Za):Prop:=∀ b o,v b=some o→v' b=some o
theorem Za.le_refl (v:Za):v.le v:=λ_ _ h=>h
theorem Za.le_trans {a b c:Za} (h:a.le b) (k:b.le c):a.le c:=λx o e=>k x o (h x o e)
def VIn (v:Za) (w:World):Prop:=∀ b o,v b=some o→w.heap[b]? = some o
theorem VIn.lt {v:Za} {w:World} (h:VIn v w) {b:Nat} {o:Obj} (e:v b=some o):b<w.heap.size:=by
 have:=h b o e;rcases Nat.lt_or_ge b w.heap.size with h' | h'
 ·exact h'
 ·simp[Array.getElem?_eq_none h']at this
theorem VIn.none {v:Za} {w:World} (h:VIn v w) {b:Nat} (e:w.heap.size≤b):v b=none:=by
 cases hv:v b with
 | none=>rfl
 | some o=>have:=h.lt hv;omega
def Ext (w w':World):Prop:=Below w.heap.size w w'
theorem Ext.refl (w:World):Ext w w:=Below.refl _ _
theorem Ext.trans {a b c:World} (h:Ext a b) (k:Ext b c):Ext a c:=Below.trans h (Below.mono k h.size)
theorem Ext.size {a b:World} (h:Ext a b):a.heap.size≤b.heap.size:=Below.size h
theorem Ext.get {a b:World} (h:Ext a b) {k:Nat} {o:Obj} (e:a.heap[k]? = some o):b.heap[k]? = some o:=by
 have hk:k<a.heap.size:=by
  rcases Nat.lt_or_ge k a.heap.size with h' | h'
  ·exact h'
  ·simp[Array.getElem?_eq_none h']at e
 rw[Below.block h k hk];exact e
theorem Ext.alloc (w:World) (o:Obj):Ext w (w.alloc o):=Below.alloc (Below.refl _ _) (Nat.le_refl _) o
theorem Ext.drew (w:World):Ext w w.drew:=Below.drew (Below.refl _ _)
structure VStep (w:World) (v:Za) (w':World) (v':Za):Prop where
 le:v.le v'
 vin:VIn v' w'
 old:∀ b,b<w.heap.size→v' b=v b
theorem VStep.refl {w:World} {v:Za} (h:VIn v w):VStep w v w v:=⟨Za.le_refl _,h,λ_ _=>rfl⟩
theorem VStep.trans {a b c:World} {x y z:Za} (hs:a.heap.size≤b.heap.size) (h:VStep a x b y) (k:VStep b y c z):VStep a x c z :=
 ⟨Za.le_trans h.le k.le,k.vin,λn hn=>(k.old n (by omega)).trans (h.old n hn)⟩
theorem VStep.ext {w w':World} {v:Za} (h:VIn v w) (k:Ext w w'):VStep w v w' v:=⟨Za.le_refl _,λb o e=>k.get (h b o e),λ_ _=>rfl⟩
structure Base where
 wd:World
 lent:List Nat
instance:Coe World Base:=⟨λw=>⟨w,[]⟩⟩
structure ExtB (z:Base) (w:World):Prop where
 os:w.os=z.wd.os
 tape:w.tape=z.wd.tape
 output:w.output=z.wd.output
 size:z.wd.heap.size≤w.heap.size
 block:∀ k,k<z.wd.heap.size→k ∉ z.lent→w.heap[k]? = z.wd.heap[k]?
theorem ExtB.refl (z:Base):ExtB z z.wd:=⟨rfl,rfl,rfl,Nat.le_refl _,λ_ _ _=>rfl⟩
theorem ExtB.trans {z:Base} {b c:World} (h:ExtB z b) (k:Ext b c):ExtB z c :=
 ⟨k.os.trans h.os,k.tape.trans h.tape,k.output.trans h.output,Nat.le_trans h.size k.size,λi hi hn=>(k.block i (Nat.lt_of_lt_of_le hi h.size)).trans (h.block i hi hn)⟩
theorem ExtB.ext {w0 w:World} (h:ExtB (w0:Base) w):Ext w0 w:=⟨h.os,h.tape,h.output,h.size,λk hk=>h.block k hk (by simp)⟩
structure VStepB (z:Base) (v:Za) (w':World) (v':Za):Prop where
 le:v.le v'
 vin:VIn v' w'
 old:∀ b,b<z.wd.heap.size→b ∉ z.lent→v' b=v b
theorem VStepB.trans {z:Base} {b c:World} {x y q:Za} (hs:z.wd.heap.size≤b.heap.size) (h:VStepB z x b y) (k:VStep b y c q):VStepB z x c q :=
 ⟨Za.le_trans h.le k.le,k.vin,λn hn hm=>(k.old n (by omega)).trans (h.old n hn hm)⟩
theorem VStepB.ext {w0 w:World} {v0 v:Za} (h:VStepB (w0:Base) v0 w v):VStep w0 v0 w v:=⟨h.le,h.vin,λk hk=>h.old k hk (by simp)⟩
def Ret (P:Program) (f:FuncId) (args:Array Value) (w:World) (v:Za) (R:Value→Za→Prop):Prop :=
 Calls P f args w λe w'=>∃ r v',e = .returned r∧Ext w w'∧VStep w v w' v'∧R r v'
theorem Ret.mono {P:Program} {f:FuncId} {args:Array Value} {w:World} {v:Za} {R R':Value→Za→Prop} (h:Ret P f args w v R) (k:∀ r v',v.le v'→R r v'→R' r v'):Ret P f args w v R' :=
 Calls.mono h λ_ _ ⟨r,v',e,x,s,q⟩=>⟨r,v',e,x,s,k r v' s.le q⟩
def plain:Value→Bool
 | .agg _ | .tuple _=>false
 | _=>true
def look:List (Nat×Value)→Nat→Option Value
 | [],_=>none
 | (k,x) :: r,t=>bif Nat.beq k t then some x else look r t
theorem ZCc {k:Nat} {x:Value} {r:List (Nat×Value)} {t:Nat} (h:k=t):look ((k,x) :: r) t=some x:=by
 subst h;simp[look]
theorem ZEd {k:Nat} {x:Value} {r:List (Nat×Value)} {t:Nat} (h:k≠t):look ((k,x) :: r) t=look r t:=by
 have hb:Nat.beq k t=false:=by
  cases hb:Nat.beq k t with
  | false=>rfl
  | true=>exact absurd (eQ hb) h
 simp[look,hb]
def ev (σ:List (Nat×Value)):Operand→Option Value
 | .tmp t=>look σ t
 | .const c=>some c
 | .global g=>some (.pointer (some ⟨g,0,none⟩))
 | .func f=>some (.func (.func f) #[] #[])
inductive Loc where
 | box (b:Nat) (T:TypeId) (cs:List Value)
 | own (b:Option Nat) (T:TypeId) (sz n cap:Nat) (cs:List Value)
 | mp (b:Nat) (l:List (Value×Value))
def Loc.blk:Loc→Option Nat
 | .box b _ _=>some b
 | .own b _ _ _ _ _=>b
 | .mp b _=>some b
def Loc.holds (w:World):Loc→Prop
 | .box b T cs=>w.heap[b]? = some (.cells cs.toArray T (0,0))
 | .own none _ _ n cap cs=>n=0∧cap=0∧cs=[]
 | .own (some b) T sz n cap cs=>cs.length=n*sz∧∃ cur:Array Value,w.heap[b]? = some (.cells cur T (0,0))∧n≤cap∧cap≤maxLen∧cur.size=cap*sz∧cur.toList.take (n*sz)=cs
 | .mp b l=>∃ es c,w.heap[b]? = some (.map es c)∧es.toList.map (λe=>(e.key,e.val))=l
theorem Loc.holds_ext {w w':World} (h:Ext w w') {e:Loc} (k:e.holds w):e.holds w':=by
 cases e with
 | box b T cs=>exact h.get k
 | own b T sz n cap cs =>
  cases b with
  | none=>exact k
  | some b=>obtain⟨h1,c,h2,h3⟩:=k;exact⟨h1,c,h.get h2,h3⟩
 | mp b l=>obtain⟨es,c,h1,h2⟩:=k;exact⟨es,c,h.get h1,h2⟩
theorem Loc.blk_get {w:World} {e:Loc} (k:e.holds w) {b:Nat} (hb:e.blk=some b):∃ o,w.heap[b]? = some o:=by
 cases e with
 | box b' T cs=>cases hb;exact⟨_,k⟩
 | own b' T sz n cap cs=>cases hb;obtain⟨_,c,h2,_⟩:=k;exact⟨_,h2⟩
 | mp b' l=>cases hb;obtain⟨es,c,h1,_⟩:=k;exact⟨_,h1⟩
theorem ZHb {w:World} {b:Nat} {o:Obj} (h:w.heap[b]? = some o):b<w.heap.size:=by
 rcases Nat.lt_or_ge b w.heap.size with h' | h'
 ·exact h'
 ·simp[Array.getElem?_eq_none h']at h
structure St (K:Nat) (w0:Base) (v0:Za) (σ:List (Nat×Value)) (ℓ:List Loc) (v:Za) (a:Act) (w:World):Prop where
 size:a.tmps.size=K
 dfr:a.defers=[]
 fr:∀ t x,look σ t=some x→a.tmps.getD t undef=x
 ext:ExtB w0 w
 vst:VStepB w0 v0 w v
 loc:∀ e ∈ ℓ,e.holds w∧∀ b,e.blk=some b→(w0.wd.heap.size≤b∨b ∈ w0.lent)∧v b=none
 nd:(ℓ.filterMap Loc.blk).Nodup
section
variable {K:Nat} {w0:Base} {v0:Za} {σ:List (Nat×Value)} {ℓ:List Loc} {v:Za} {a:Act} {w:World}
theorem St.eval (h:St K w0 v0 σ ℓ v a w) {x:Operand} {y:Value} (e:ev σ x=some y):a.eval x=y:=by
 cases x with
 | tmp t=>exact h.fr t y e
 | const c=>exact Option.some.inj e
 | global g=>exact Option.some.inj e
 | func f=>exact Option.some.inj e
theorem St.put (h:St K w0 v0 σ ℓ v a w) {d:Nat} (x:Value) (hd:d<K):St K w0 v0 ((d,x) :: σ) ℓ v (a.put (some d) x) w:=by
 refine⟨by simp[Act.put,h.size],by simp[Act.put,h.dfr],λt y e=>?_,h.ext,h.vst,h.loc,h.nd⟩;by_cases ht:d=t
 ·subst ht;rw[ZCc rfl]at e
  cases e
  simp[Act.put,h.size,hd]
 ·rw[ZEd ht]at e;have:=h.fr t y e
  simpa [Act.put,Array.getElem?_setIfInBounds_ne ht] using this
theorem St.frame {σ':List (Nat×Value)} (h:St K w0 v0 σ ℓ v a w) (k:∀ t x,look σ' t=some x→look σ t=some x):St K w0 v0 σ' ℓ v a w :=
 ⟨h.size,h.dfr,λt x e=>h.fr t x (k t x e),h.ext,h.vst,h.loc,h.nd⟩
theorem Z6k {σ:List (Nat×Value)}:∀ t x,look [] t=some x→look σ t=some x:=λ_ _ h=>by cases h
theorem St.learn {t:Nat} {x:Value} (h:St K w0 v0 σ ℓ v a w) (e:a.tmps.getD t undef=x):St K w0 v0 ((t,x) :: σ) ℓ v a w :=
 ⟨h.size,h.dfr,λu y k=>by
  by_cases ht:t=u
  ·subst ht;rw[ZCc rfl]at k;cases k;exact e
  ·rw[ZEd ht]at k;exact h.fr u y k,h.ext,h.vst,h.loc,h.nd⟩
theorem St.vin (h:St K w0 v0 σ ℓ v a w):VIn v w:=h.vst.vin
theorem St.step {w':World} {v':Za} (h:St K w0 v0 σ ℓ v a w) (x:Ext w w') (s:VStep w v w' v'):St K w0 v0 σ ℓ v' a w' :=
 ⟨h.size,h.dfr,h.fr,h.ext.trans x,VStepB.trans h.ext.size h.vst s,λe he=>by
  obtain⟨h1,h2⟩:=h.loc e he
  refine⟨Loc.holds_ext x h1,λb hb=>?_⟩
  obtain⟨h3,h4⟩:=h2 b hb
  obtain⟨_,hg⟩:=Loc.blk_get h1 hb
  exact⟨h3,by rw[s.old b (ZHb hg)];exact h4⟩,h.nd⟩
theorem St.newLoc (h:St K w0 v0 σ ℓ v a w) (o:Obj) {e:Loc} (hb:e.blk=some w.heap.size) (hh:e.holds (w.alloc o)):St K w0 v0 σ (e :: ℓ) v a (w.alloc o):=by
 have h':=h.step (Ext.alloc w o) (VStep.ext h.vin (Ext.alloc w o));refine⟨h'.size,h'.dfr,h'.fr,h'.ext,h'.vst,λx hx=>?_,?_⟩
 ·rcases List.mem_cons.1 hx with rfl | hx
  ·refine⟨hh,λb e'=>?_⟩;rw[hb]at e';cases e';exact⟨.inl h.ext.size,h.vin.none (Nat.le_refl _)⟩
  ·exact h'.loc x hx
 ·rw[List.filterMap_cons_some hb];refine List.nodup_cons.2 ⟨λhm=>?_,h.nd⟩;obtain⟨x,hx,hxb⟩:=List.mem_filterMap.1 hm;obtain⟨_,hg⟩:=Loc.blk_get (h.loc x hx).1 hxb;have:=ZHb hg;omega
theorem St.drop {ℓ':List Loc} (h:St K w0 v0 σ ℓ v a w) (k:ℓ'.Sublist ℓ):St K w0 v0 σ ℓ' v a w :=
 ⟨h.size,h.dfr,h.fr,h.ext,h.vst,λe he=>h.loc e (k.subset he),(k.filterMap _).nodup h.nd⟩
theorem St.nilLoc (h:St K w0 v0 σ ℓ v a w) (T:TypeId) (sz:Nat):St K w0 v0 σ (.own none T sz 0 0 [] :: ℓ) v a w :=
 ⟨h.size,h.dfr,h.fr,h.ext,h.vst,λe he=>by
  rcases List.mem_cons.1 he with rfl | he
  ·exact⟨⟨rfl,rfl,rfl⟩,λb hb=>by cases hb⟩
  ·exact h.loc e he,by rw[List.filterMap_cons_none rfl];exact h.nd⟩
def WAt (w:World) (b off:Nat) (cs:List Value):Prop:=∃ c T fr,w.heap[b]? = some (.cells c T fr)∧(c.toList.drop off).take cs.length=cs
def At (v:Za) (b off:Nat) (cs:List Value):Prop:=∃ c T fr,v b=some (.cells c T fr)∧(c.toList.drop off).take cs.length=cs
theorem At.mono {v v':Za} {b off:Nat} {cs:List Value} (h:v.le v') (k:At v b off cs):At v' b off cs:=by
 obtain⟨c,T,fr,h1,h2⟩:=k;exact⟨c,T,fr,h _ _ h1,h2⟩
theorem St.view (h:St K w0 v0 σ ℓ v a w) {b off:Nat} {cs:List Value} (k:At v b off cs):WAt w b off cs:=by
 obtain⟨c,T,fr,h1,h2⟩:=k;exact⟨c,T,fr,h.vin _ _ h1,h2⟩
theorem St.box (h:St K w0 v0 σ ℓ v a w) {i b:Nat} {T:TypeId} {cs0:List Value} (k:ℓ[i]? = some (.box b T cs0)) (off:Nat) (cs:List Value) (e:(cs0.drop off).take cs.length=cs):WAt w b off cs :=
 ⟨_,_,_,(h.loc _ (mG k)).1,by simpa using e⟩
theorem WAt.cell {w:World} {b off:Nat} {cs:List Value} (h:WAt w b off cs) {j:Nat} {x:Value} (k:cs[j]? = some x):w.cell? ⟨b,off+j,none⟩=some x:=by
 obtain⟨c,T,fr,h1,h2⟩:=h;have hj:j<cs.length:=(List.getElem?_eq_some_iff.1 k).1;have:((c.toList.drop off).take cs.length)[j]? = some x:=by rw[h2];exact k
 rw[List.getElem?_take_of_lt hj,List.getElem?_drop]at this;simp only[World.cell?,h1,Option.isSome_none,Bool.false_eq_true,if_false]
 simpa using this
end
theorem ZMa (b off n:Nat):Addr.add ⟨b,off,none⟩ n=⟨b,off+n,none⟩:=by
 unfold Addr.add;split <;> simp_all
end Go.Eng
namespace Go.Eng
open Go.RowKit
section
variable {P:Program} {ops:Array Oper} {Q:Exit→Act→World→Prop} {a:Act} {w:World} {rest:List Oper}
end
section
variable {P:Program} {K:Nat} {w0:Base} {v0:Za} {σ:List (Nat×Value)} {ℓ:List Loc} {v:Za} {a:Act} {w:World}
variable {d:Option Nat} {ty:TypeId} {pos:String} {aft:Array Edge} {g:Option (Nat×Bool)}
theorem Z1f (hS:St K w0 v0 σ ℓ v a w) {x:Operand} {y:Value} (e:ev σ x=some y):(execOp a.eval ⟨d,.move x,ty,pos,aft,g⟩).run P w = .ok (.value y) w:=by
 simp[execOp,hS.eval e]
theorem Z5f (hS:St K w0 v0 σ ℓ v a w) {x:Operand} {y:Value} (e:ev σ x=some y):(execOp a.eval ⟨d,.assign x,ty,pos,aft,g⟩).run P w = .ok (.value y) w:=by
 simp[execOp,hS.eval e]
theorem Zyk (hS:St K w0 v0 σ ℓ v a w) {x:Operand} {vs:Array Value} {i:Nat} {y:Value} (e:ev σ x=some (.tuple vs)) (h:vs[i]? = some y) :
  (execOp a.eval ⟨d,.extract x i,ty,pos,aft,g⟩).run P w = .ok (.value y) w:=by
 simp[execOp,hS.eval e,Instr.extract,h]
theorem Zxi (hS:St K w0 v0 σ ℓ v a w) {c x y:Operand} {b:Bool} {z:Value} (e:ev σ c=some (.bool b)) (h:(if b then ev σ x else ev σ y)=some z) :
  (execOp a.eval ⟨d,.pick c x y,ty,pos,aft,g⟩).run P w = .ok (.value z) w:=by
 cases b with
 | true=>simp only[if_true]at h;simp[execOp,hS.eval e,hS.eval h,asBool]
 | false=>simp only[Bool.false_eq_true,if_false]at h;simp[execOp,hS.eval e,hS.eval h,asBool]
structure Sized (P:Program) (t:TypeId) (n:Nat) (agg:Bool):Prop where
 size:∀ w,(sizeOf t).run P w = .ok n w
 agg:∀ w,(isAgg t).run P w = .ok agg w
theorem Zdk {t:TypeId} {z:Value} (hz:∀ w,(zeroValue t).run P w = .ok z w) :
  (execOp a.eval ⟨d,.alloc t,ty,pos,aft,g⟩).run P w = .ok (.value (.pointer (some ⟨w.heap.size,0,none⟩))) (w.alloc (.cells z.cells t)):=by
 simp[execOp,Instr.alloc,hz,newVar,newRow]
theorem ZUi (hS:St K w0 v0 σ ℓ v a w) {t:TypeId} {x:Operand} {y:Value} (e:ev σ x=some y) :
  (execOp a.eval ⟨d,.box t x,ty,pos,aft,g⟩).run P w = .ok (.value (.pointer (some ⟨w.heap.size,0,none⟩))) (w.alloc (.cells y.cells t)):=by
 simp[execOp,Instr.box,hS.eval e,newVar,newRow]
theorem Zji {t:TypeId} {n b off:Nat} {cs:List Value} (ht:Sized P t n true) (hn:cs.length=n) (hc:WAt w b off cs) :
  (loadVar t ⟨b,off,none⟩).run P w = .ok (.agg cs.toArray) w:=by
 have:=run_loadCells_list (P:=P) w ⟨b,off,none⟩ cs (λj x h=>by rw[ZMa];exact hc.cell h);rw[hn]at this;simp[loadVar,ht.agg,ht.size,this]
theorem Zmj {t:TypeId} {n b off:Nat} {x:Value} (ht:Sized P t n false) (hc:WAt w b off [x]) :
  (loadVar t ⟨b,off,none⟩).run P w = .ok x w:=by
 have:=hc.cell (j:=0) (x:=x) rfl;simp only[Nat.add_zero]at this;simp[loadVar,ht.agg,this]
theorem ZAj (hS:St K w0 v0 σ ℓ v a w) {t:TypeId} {x:Operand} {n b off:Nat} {cs:List Value} (e:ev σ x=some (.pointer (some ⟨b,off,none⟩))) (ht:Sized P t n true) (hn:cs.length=n)
  (hc:WAt w b off cs):(execOp a.eval ⟨d,.load t x,ty,pos,aft,g⟩).run P w = .ok (.value (.agg cs.toArray)) w:=by
 simp[execOp,Instr.loadAt,Instr.sureAddr,hS.eval e,Zji ht hn hc]
theorem Zxe (hS:St K w0 v0 σ ℓ v a w) {t:TypeId} {x:Operand} {n b off:Nat} {y:Value} (e:ev σ x=some (.pointer (some ⟨b,off,none⟩))) (ht:Sized P t n false)
  (hc:WAt w b off [y]):(execOp a.eval ⟨d,.load t x,ty,pos,aft,g⟩).run P w = .ok (.value y) w:=by
 simp[execOp,Instr.loadAt,Instr.sureAddr,hS.eval e,Zmj ht hc]
def Zli (P:Program) (s:TypeId) (f off:Nat):Prop:=∀ (b o:Nat) (w:World),(Instr.fieldAt s (.pointer (some ⟨b,o,none⟩)) f).run P w = .ok (.pointer (some ⟨b,o+off,none⟩)) w
theorem ZAk (hS:St K w0 v0 σ ℓ v a w) {s:TypeId} {x:Operand} {f off b o:Nat} (e:ev σ x=some (.pointer (some ⟨b,o,none⟩))) (ht:Zli P s f off) :
  (execOp a.eval ⟨d,.fieldAddr s x f,ty,pos,aft,g⟩).run P w = .ok (.value (.pointer (some ⟨b,o+off,none⟩))) w:=by
 simp[execOp,hS.eval e,ht b o w]
theorem ZRl (hS:St K w0 v0 σ ℓ v a w) {s:TypeId} {x:Operand} {f:Nat} {y z:Value} (e:ev σ x=some y) (ht:(Instr.field s y f).run P w = .ok z w) :
  (execOp a.eval ⟨d,.field s x f,ty,pos,aft,g⟩).run P w = .ok (.value z) w:=by
 simp[execOp,hS.eval e,ht]
def Zse (P:Program) (t e:TypeId) (sz:Nat):Prop:=(∀ w,(underlying t).run P w = .ok (.slice e) w)∧∀ w,(sizeOf e).run P w = .ok sz w
theorem Z4b (hS:St K w0 v0 σ ℓ v a w) {t et:TypeId} {sz:Nat} {x i:Operand} {b o n cap:Nat} {k:IntKind} {j:Int} (e:ev σ x=some (.slice (some ⟨b,o,none⟩) n cap)) (ei:ev σ i=some (.int k j))
  (ht:Zse P t et sz) (h0:0≤j) (h1:j<n):(execOp a.eval ⟨d,.indexAddr t x i,ty,pos,aft,g⟩).run P w = .ok (.value (.pointer (some ⟨b,o+j.toNat*sz,none⟩))) w:=by
 simp[execOp,Instr.indexAt,hS.eval e,hS.eval ei,asIntOf,ht.1,ht.2,h0,h1,ZMa]
theorem Zad (hS:St K w0 v0 σ ℓ v a w) {t et:TypeId} {sz:Nat} {x:Operand} {q:Option Addr} {n cap:Nat} {ats:Array TypeId} (e:ev σ x=some (.slice q n cap)) (h:ats[0]? = some t) (ht:Zse P t et sz) :
  (execOp a.eval ⟨d,.call ⟨.builtin .len,#[x],ats⟩,ty,pos,aft,g⟩).run P w = .ok (.value (.int .i64 n)) w:=by
 simp[execOp,resolve,invoke,builtin,Builtin.len_,hS.eval e,h,ht.1,goInt]
end
end Go.Eng
namespace Go.Eng
open Go.RowKit
section
variable {P:Program} {ops:Array Oper} {Q:Exit→Act→World→Prop}
def Zja (P:Program) (o:Oper) (a:Act) (w:World) (J:Value→World→Prop):Prop :=
 match (execOp a.eval o).run P w with
 | .ok (.value x) w'=>J x w'
 | .ok .skip w'=>J undef w'
 | .ok (.enter f args) w'=>Calls P f args w' λe w''=>∃ r,e = .returned r∧J r w''
 | _=>False
theorem Zrd {o:Oper} {a:Act} {w w':World} {x:Value} {J:Value→World→Prop} (h:(execOp a.eval o).run P w = .ok (.value x) w') (k:J x w'):Zja P o a w J:=by
 unfold Zja;rw[h];exact k
theorem ZJl {o:Oper} {a:Act} {w w':World} {J:Value→World→Prop} (h:(execOp a.eval o).run P w = .ok .skip w') (k:J undef w'):Zja P o a w J:=by
 unfold Zja;rw[h];exact k
theorem ZDc {o:Oper} {a:Act} {w w':World} {f:FuncId} {args:Array Value} {J:Value→World→Prop} (h:(execOp a.eval o).run P w = .ok (.enter f args) w')
  (k:Calls P f args w' λe w''=>∃ r,e = .returned r∧J r w''):Zja P o a w J:=by
 unfold Zja;rw[h];exact k
theorem ZUc {o:Oper} {a:Act} {w:World} {J J':Value→World→Prop} (h:Zja P o a w J) (k:∀ x w',J x w'→J' x w'):Zja P o a w J':=by
 unfold Zja at *;split at h
 ·exact k _ _ h
 ·exact k _ _ h
 ·exact h.mono λe w'' ⟨r,e1,e2⟩=>⟨r,e1,k _ _ e2⟩
 ·exact h
theorem Zte {o:Oper} {a r:Act} {w:World} {J:Value→World→Prop} {K:Act→World→Prop} (he:execOp r.eval o=execOp a.eval o) (h:Zja P o a w J)
  (k:∀ x w',J x w'→K (r.put o.dst x) w'):o.wp P r w K Q:=by
 unfold Oper.wp;rw[he];unfold Zja at h;split at h
 ·rename_i hr;rw[hr];exact k _ _ h
 ·rename_i hr;rw[hr];exact k _ _ h
 ·rename_i hr;rw[hr,Oper.upon_enter];refine h.mono ?_;rintro e w'' ⟨x,rfl,hx⟩;exact k _ _ hx
 ·exact h.elim
def Zgb (P:Program) (ops:Array Oper) (o:Oper) (a:Act) (w:World):Prop :=
 ∃ d,o.dst=some d∧(Region.wanted o (yielded ops a.tmps)=true→(execOp a.eval o).run P w = .ok (.value (a.tmps.getD d undef)) w) ∧
  (Region.wanted o (yielded ops a.tmps)=false→a.tmps.getD d undef=undef)
def Zca (ops:Array Oper) (j i:Nat):Bool:=match ops[j]? with
 | some o=>o.after.any λe=>Region.binds .any e&&e.on==i
 | none=>false
def okF (ops:Array Oper) (fl:Array Bool):Bool :=
 (fl.size==ops.size) &&
 ((List.range ops.size).all λi=>match ops[i]? with
  | some o=>(o.after.all λe=>!Region.binds .any e || decide (e.on<i))&&(match o.op with | .select _ _=>false | _=>true)
  | none=>false) &&
 ((List.range ops.size).all λg=>!fl.getD g false || match ops[g]? with
  | some o=>(match o.dst with
   | some d=>(List.range ops.size).all λj=>match ops[j]? with
    | some oj=>(!(oj.looksAt ops).contains d || Zca ops j g)&&(j==g || oj.dst != some d)
    | none=>true
   | none=>false)
  | none=>false)
structure OkF (ops:Array Oper) (fl:Array Bool):Prop where
 back:∀ (i:Nat) (o:Oper),ops[i]? = some o→∀ e ∈ o.after,Region.binds .any e=true→e.on<i
 nosel:∀ (i:Nat) (o:Oper),ops[i]? = some o→∀ cs b,o.op≠Op.select cs b
 look:∀ (g:Nat) (o:Oper) (d:Nat),ops[g]? = some o→fl.getD g false=true→o.dst=some d→∀ (j:Nat) (oj:Oper),ops[j]? = some oj→d ∈ oj.looksAt ops→Zca ops j g=true
 sole:∀ (g:Nat) (o:Oper) (d:Nat),ops[g]? = some o→fl.getD g false=true→o.dst=some d→∀ (j:Nat) (oj:Oper),ops[j]? = some oj→j≠g→oj.dst≠some d
 dst:∀ (g:Nat) (o:Oper),ops[g]? = some o→fl.getD g false=true→∃ d,o.dst=some d
theorem Zkm {fl:Array Bool} (h:okF ops fl=true):OkF ops fl:=by
 simp only[okF,Bool.and_eq_true,List.all_eq_true,List.mem_range]at h;obtain⟨⟨_,h1⟩,h2⟩:=h;have lt:∀ {i o},ops[i]? = some o→i<ops.size:=λe=>(Array.getElem?_eq_some_iff.1 e).1;have g1:∀ (g:Nat) (o:Oper),ops[g]? = some o→fl.getD g false=true→∃ d,o.dst=some d∧∀ (j:Nat) (oj:Oper),ops[j]? = some oj→((d ∈ oj.looksAt ops→Zca ops j g=true)∧(j≠g→oj.dst≠some d)):=by
  intro g o hg hf;have:=h2 g (lt hg);simp only[hf,Bool.not_true,Bool.false_or,hg]at this
  cases hd:o.dst with
  | none=>simp[hd]at this
  | some d =>
   simp only[hd,List.all_eq_true,List.mem_range]at this;refine⟨d,rfl,λj oj hj=>?_⟩;have t:=this j (lt hj);simp only[hj,Bool.and_eq_true,Bool.or_eq_true,Bool.not_eq_true',beq_iff_eq,bne_iff_ne]at t;refine⟨λhm=>?_,λhne=>?_⟩
   ·rcases t.1 with t1 | t1
    ·simp at t1;exact absurd hm t1
    ·exact t1
   ·rcases t.2 with t2 | t2
    ·exact absurd t2 hne
    ·exact t2
 refine⟨λi o hi e he hb=>?_,λi o hi cs b hc=>?_,λg o d hg hf hd j oj hj hm=>?_,λg o d hg hf hd j oj hj hne=>?_,λg o hg hf=>?_⟩
 ·have:=h1 i (lt hi);simp only[hi,Bool.and_eq_true,Array.all_eq_true']at this;have t:=this.1 e he
  simpa [hb] using t
 ·have:=h1 i (lt hi);simp[hi,hc]at this
 ·obtain⟨d',e',k⟩:=g1 g o hg hf;rw[hd]at e';cases e';exact (k j oj hj).1 hm
 ·obtain⟨d',e',k⟩:=g1 g o hg hf;rw[hd]at e';cases e';exact (k j oj hj).2 hne
 ·obtain⟨d',e',_⟩:=g1 g o hg hf;exact⟨d',e'⟩
structure Sim (P:Program) (ops:Array Oper) (fl E listed:Array Bool) (a r:Act) (w:World):Prop where
 size:listed.size=ops.size
 sub:∀ j,listed.getD j false=true→E.getD j false=true
 closed:∀ (j:Nat) (o:Oper),ops[j]? = some o→listed.getD j false=true→∀ e ∈ o.after,Region.binds .any e=true→listed.getD e.on false=true
 pend:∀ (j:Nat) (o:Oper),ops[j]? = some o→E.getD j false=true→listed.getD j false=false→fl.getD j false=true∧Zgb P ops o a w
 tmps:r.tmps.size=a.tmps.size
 dfr:r.defers=a.defers
 agree:∀ t,(∀ (j:Nat) (o:Oper),ops[j]? = some o→E.getD j false=true→listed.getD j false=false→o.dst≠some t)→r.tmps.getD t undef=a.tmps.getD t undef
def left (listed:Array Bool):Nat:=(listed.toList.filter (! ·)).length
def Rg (P:Program) (ops:Array Oper) (Q:Exit→Act→World→Prop) (fl E:Array Bool) (a:Act) (w:World):Prop :=
 E.size=ops.size→(∀ (j:Nat) (o:Oper),ops[j]? = some o→E.getD j false=true→∀ e ∈ o.after,Region.binds .any e=true→E.getD e.on false=true) →
 ∀ fuel listed r,left listed=fuel→Sim P ops fl E listed a r w→wpAny P .any ops Q fuel listed r w
theorem ZCd {listed:Array Bool} {i:Nat} (h:listed.getD i true=false):left (listed.setIfInBounds i true)+1=left listed:=by
 have hi:i<listed.size:=by
  rcases Nat.lt_or_ge i listed.size with h' | h'
  ·exact h'
  ·simp[Array.getElem?_eq_none h']at h
 have hv:listed.toList[i]? = some false:=by
  simp[hi]at h;simp[hi,h]
 unfold left;rw[Array.toList_setIfInBounds];generalize listed.toList=l at hv;clear h hi
 induction l generalizing i with
 | nil=>simp at hv
 | cons x l ih =>
  cases i with
  | zero=>simp at hv;subst hv;simp
  | succ i =>
   simp at hv;have:=ih hv
   cases x <;> simp at this ⊢ <;> omega
theorem Zva {listed:Array Bool} {j:Nat} (hj:j<listed.size):listed.getD j true=listed.getD j false:=by simp[hj]
theorem ZWf {listed:Array Bool} (h:left listed=0) {j:Nat}:listed.getD j true=true:=by
 unfold left at h;have h':∀ x ∈ listed.toList,x=true:=by
  intro x hx;have:=List.filter_eq_nil_iff.1 (List.length_eq_zero_iff.1 h) x hx
  simpa using this
 rcases Nat.lt_or_ge j listed.size with hj | hj
 ·have:=h' listed[j] (by simp);simp[hj,this]
 ·simp[Array.getElem?_eq_none hj]
theorem Sim.eval {fl E listed:Array Bool} {a r:Act} {w:World} (hF:OkF ops fl) (s:Sim P ops fl E listed a r w) {i:Nat} {o:Oper} (hi:ops[i]? = some o)
  (hp:∀ e ∈ o.after,Region.binds .any e=true→listed.getD e.on false=true):execOp r.eval o=execOp a.eval o∧Region.wanted o (yielded ops r.tmps)=Region.wanted o (yielded ops a.tmps):=by
 have key:∀ t,t ∈ o.looksAt ops→r.tmps.getD t undef=a.tmps.getD t undef:=by
  intro t ht;refine s.agree t λj oj hj hE hl hd=>?_;have hf:=(s.pend j oj hj hE hl).1;have:=hF.look j oj t hj hf hd i o hi ht;simp only[Zca,hi]at this;obtain⟨e,he,hb⟩:=Array.any_eq_true'.1 this;simp only[Bool.and_eq_true,beq_iff_eq]at hb;have:=hp e he hb.1;rw[hb.2,hl]at this;cases this
 constructor
 ·refine execOp_congr o (hF.nosel i o hi) λx hx=>?_
  cases x with
  | tmp t=>exact key t (List.mem_append_left _ (List.mem_filterMap.2 ⟨.tmp t,by simpa using hx,rfl⟩))
  | _=>rfl
 ·unfold Region.wanted
  cases hg:o.guard with
  | none=>rfl
  | some gw =>
   obtain⟨g,want⟩:=gw;have hy:yielded ops r.tmps g=yielded ops a.tmps g:=by
    unfold yielded
    cases ht:(ops[g]?).bind (·.dst) with
    | none=>rfl
    | some t =>
     have h1:=key t (by simp[Oper.looksAt,hg,ht]);simp only[Option.bind_some];rcases Nat.lt_or_ge t a.tmps.size with hlt | hge
     ·have hlt':t<r.tmps.size:=by rw[s.tmps];exact hlt
      simp[hlt,hlt']at h1;simp[hlt,hlt',h1]
     ·simp[Array.getElem?_eq_none hge,Array.getElem?_eq_none (show r.tmps.size≤t by rw[s.tmps];exact hge)]
   simp only[hy]
theorem ZU {l:Array Bool} {i j:Nat} {b:Bool} (h:i≠j):(l.setIfInBounds i true).getD j b=l.getD j b:=getD_set_ne b h
theorem Zka {l:Array Bool} {i:Nat} {b:Bool} (h:i<l.size):(l.setIfInBounds i true).getD i b=true:=by simp[h]
theorem Z5a {a:Act} {d t:Nat} {x:Value} (h:d≠t):(a.put (some d) x).tmps.getD t undef=a.tmps.getD t undef:=by
 simp[Act.put,Array.getElem?_setIfInBounds_ne h]
theorem Zgd {a:Act} {d:Nat} {x:Value} (h:d<a.tmps.size):(a.put (some d) x).tmps.getD d undef=x:=by
 simp[Act.put,h]
theorem ZDg {a:Act} {d:Nat} {x:Value} (h:a.tmps.size≤d):(a.put (some d) x).tmps.getD d undef=undef:=by
 have:¬ d<a.tmps.size:=Nat.not_lt.2 h;simp[Act.put,this]
theorem Z1d {a:Act} {d:Option Nat} {x:Value}:(a.put d x).tmps.size=a.tmps.size:=by cases d <;> simp[Act.put]
theorem Zbf {a:Act} {d:Option Nat} {x:Value}:(a.put d x).defers=a.defers:=by cases d <;> simp[Act.put]
theorem ZYk {fl E E':Array Bool} {a:Act} {w:World} (hF:OkF ops fl) (f:Nat) {o:Oper} {d:Nat} {x:Value} (hi:ops[f]? = some o) (hfl:fl.getD f false=true) (hd:o.dst=some d) (hK:d<a.tmps.size)
  (hr:f ∈ Region.ready .any ops E) (hE':E'=E.setIfInBounds f true)
  (hx:(Region.wanted o (yielded ops a.tmps)=true∧(execOp a.eval o).run P w = .ok (.value x) w)∨(Region.wanted o (yielded ops a.tmps)=false∧x=undef))
  (h:Rg P ops Q fl E' (a.put (some d) x) w):Rg P ops Q fl E a w:=by
 subst hE';intro hsz hcl fuel listed r hfuel s;obtain⟨hun,o',ho',hall⟩:=mem_ready.1 hr;rw[hi]at ho';cases ho';have hfs:f<E.size:=by
  rcases Nat.lt_or_ge f E.size with h' | h'
  ·exact h'
  ·simp[Array.getElem?_eq_none h']at hun
 have hun':E.getD f false=false:=by rw[← Zva hfs];exact hun
 have hlf:listed.getD f false=false:=by
  cases hl:listed.getD f false with
  | false=>rfl
  | true=>rw[s.sub f hl]at hun';cases hun'
 have notlook:∀ (j:Nat) (oj:Oper),ops[j]? = some oj→(∀ e ∈ oj.after,Region.binds .any e=true→E.getD e.on false=true)→d ∉ oj.looksAt ops:=by
  intro j oj hj hc hm;have:=hF.look f o d hi hfl hd j oj hj hm;simp only[Zca,hj]at this;obtain⟨e,he,hb⟩:=Array.any_eq_true'.1 this;simp only[Bool.and_eq_true,beq_iff_eq]at hb;have:=hc e he hb.1;rw[hb.2,hun']at this;cases this
 refine h (by simp[hsz]) (λj oj hj hEj e he hb=>?_) fuel listed r hfuel ?_
 ·by_cases hjf:f=j
  ·subst hjf;rw[hi]at hj;cases hj;have:=hall e he hb;by_cases hef:f=e.on
   ·rw[← hef];exact Zka hfs
   ·rw[ZU hef];exact this
  ·rw[ZU hjf]at hEj;have:=hcl j oj hj hEj e he hb;by_cases hef:f=e.on
   ·rw[← hef];exact Zka hfs
   ·rw[ZU hef];exact this
 ·refine⟨s.size,λj hj=>?_,s.closed,λj oj hj hEj hl=>?_,by rw[Z1d];exact s.tmps,by rw[Zbf];exact s.dfr,λt ht=>?_⟩
  ·by_cases hjf:f=j
   ·subst hjf;exact Zka hfs
   ·rw[ZU hjf];exact s.sub j hj
  ·by_cases hjf:f=j
   ·subst hjf;rw[hi]at hj;cases hj;have hn:=notlook f o hi hall;have he:=execOp_put o (hF.nosel f o hi) a (some d) x (ops:=ops) (λd' hd'=>by cases hd';exact hn);have hw:=wanted_put (ops:=ops) o a (some d) x (λd' hd'=>by cases hd';exact hn);refine⟨hfl,d,hd,?_,?_⟩
    ·rw[hw,he,Zgd hK];intro hwt;rcases hx with hx | hx
     ·exact hx.2
     ·rw[hx.1]at hwt;cases hwt
    ·rw[hw,Zgd hK];intro hwt;rcases hx with hx | hx
     ·rw[hx.1]at hwt;cases hwt
     ·exact hx.2
   ·rw[ZU hjf]at hEj;obtain⟨hfj,dj,hdj,k1,k2⟩:=s.pend j oj hj hEj hl;have hn:=notlook j oj hj (hcl j oj hj hEj);have he:=execOp_put oj (hF.nosel j oj hj) a (some d) x (ops:=ops) (λd' hd'=>by cases hd';exact hn);have hw:=wanted_put (ops:=ops) oj a (some d) x (λd' hd'=>by cases hd';exact hn);have hne:d≠dj:=λe=>hF.sole f o d hi hfl hd j oj hj (λe=>hjf e.symm) (e ▸ hdj);exact⟨hfj,dj,hdj,by rw[hw,he,Z5a hne];exact k1,by rw[hw,Z5a hne];exact k2⟩
  ·have hne:d≠t:=λe=>ht f o hi (Zka hfs) hlf (e ▸ hd);rw[Z5a hne];refine s.agree t λj oj hj hEj hl=>ht j oj hj ?_ hl;by_cases hjf:f=j
   ·subst hjf;exact Zka hfs
   ·rw[ZU hjf];exact hEj
theorem ZEa {i:Nat} {o:Oper} (h:ops[i]? = some o):i<ops.size:=(Array.getElem?_eq_some_iff.1 h).1
theorem Zmh {fl:Array Bool} (hF:OkF ops fl) {listed:Array Bool} (hs:listed.size=ops.size):∀ (n j:Nat),j<n→j<ops.size→listed.getD j true=false→Region.ready .any ops listed≠[]
 | 0,j,h,_,_=>by omega
 | n+1,j,h,hj,hl=>by
  intro h0
  by_cases hp:∃ e ∈ (ops[j]).after,Region.binds .any e=true∧listed.getD e.on false=false
  ·obtain⟨e,he,hb,hn⟩:=hp
   have hlt:=hF.back j ops[j] (by simp[hj]) e he hb
   refine Zmh hF hs n e.on (by omega) (by omega) ?_ h0
   rw[Zva (by omega)];exact hn
  ·have:j ∈ Region.ready .any ops listed:=mem_ready.2 ⟨hl,ops[j],by simp[hj],λe he hb=>by
    cases hx:listed.getD e.on false with
    | true=>rfl
    | false=>exact absurd ⟨e,he,hb,hx⟩ hp⟩
   rw[h0]at this;cases this
theorem Zbg {listed:Array Bool} (h:left listed≠0):∃ j,j<listed.size∧listed.getD j true=false:=by
 unfold left at h;obtain⟨x,hx⟩:=List.exists_mem_of_length_pos (Nat.pos_of_ne_zero h);obtain⟨hm,hv⟩:=List.mem_filter.1 hx;obtain⟨j,hj⟩:=List.getElem?_of_mem hm;have hlt:j<listed.size:=by
  have:=(List.getElem?_eq_some_iff.1 hj).1
  simpa using this
 refine⟨j,hlt,?_⟩
 cases x
 ·have h1:listed.toList[j]? = some listed[j]:=by simp[hlt]
  rw[h1]at hj;have h2:=Option.some.inj hj;simp[hlt,h2]
 ·simp at hv
def Zfc (ops:Array Oper) (p:Nat):List Nat→List Nat→Bool
 | _,[]=>true
 | seen,g :: r=>(Zca ops p g || seen.any λh=>Zca ops h g)&&Zfc ops p (g :: seen) r
theorem Zuh {p:Nat} {o:Oper} {listed:Array Bool} (hp:ops[p]? = some o) (hall:∀ e ∈ o.after,Region.binds .any e=true→listed.getD e.on false=true)
  (hc:∀ (j:Nat) (o:Oper),ops[j]? = some o→listed.getD j false=true→∀ e ∈ o.after,Region.binds .any e=true→listed.getD e.on false=true) :
  ∀ (l seen:List Nat),Zfc ops p seen l=true→(∀ g ∈ seen,listed.getD g false=true)→∀ g ∈ l,listed.getD g false=true
 | [],_,_,_,g,hg=>by cases hg
 | x :: l,seen,h,hs,g,hg=>by
  simp only[Zfc,Bool.and_eq_true,Bool.or_eq_true]at h
  have hx:listed.getD x false=true:=by
   rcases h.1 with h1 | h1
   ·simp only[Zca,hp]at h1;obtain⟨e,he,hb⟩:=Array.any_eq_true'.1 h1;simp only[Bool.and_eq_true,beq_iff_eq]at hb;rw[← hb.2];exact hall e he hb.1
   ·obtain⟨y,hy,h1⟩:=List.any_eq_true.1 h1;unfold Zca at h1;split at h1
    ·rename_i oy hoy;obtain⟨e,he,hb⟩:=Array.any_eq_true'.1 h1;simp only[Bool.and_eq_true,beq_iff_eq]at hb;rw[← hb.2];exact hc y oy hoy (hs y hy) e he hb.1
    ·cases h1
  rcases List.mem_cons.1 hg with rfl | hg
  ·exact hx
  ·exact Zuh hp hall hc l (x :: seen) h.2 (λz hz=>by
    rcases List.mem_cons.1 hz with rfl | hz
    ·exact hx
    ·exact hs z hz) g hg
def Next (P:Program) (ops:Array Oper) (Q:Exit→Act→World→Prop) (fl E:Array Bool) (a:Act) (w:World) (p:Nat):Prop :=
  ∃ (o:Oper) (A J:List Nat),ops[p]? = some o∧Zfc ops p [] A=true∧((List.range ops.size).all λj=>!(E.getD j false&&fl.getD j false) || A.contains j || J.contains j)=true ∧
    (if Region.wanted o (yielded ops a.tmps) then Zja P o a w (λx w'=>(∀ j ∈ J,∀ oj,ops[j]? = some oj→Zgb P ops oj (a.put o.dst x) w')∧Rg P ops Q fl (E.setIfInBounds p true) (a.put o.dst x) w')
     else (∀ j ∈ J,∀ oj,ops[j]? = some oj→Zgb P ops oj (a.put o.dst undef) w)∧Rg P ops Q fl (E.setIfInBounds p true) (a.put o.dst undef) w)
theorem ZAf {fl E:Array Bool} {a:Act} {w:World} (hF:OkF ops fl) (hend:Region.ready .any ops E=[]→Q .normal a w) (h:∀ p ∈ Region.ready .any ops E,Next P ops Q fl E a w p):Rg P ops Q fl E a w:=by
 intro hsz hcl fuel
 induction fuel with
 | zero =>
  intro listed r hfuel s;have hall:∀ j,listed.getD j true=true:=λj=>ZWf hfuel;have hallf:∀ j o,ops[j]? = some o→listed.getD j false=true:=λj o hj=>by
   rw[← Zva (by rw[s.size];exact ZEa hj)];exact hall j
  have hra:r=a:=by
   have ht:r.tmps=a.tmps:=by
    refine Array.ext s.tmps λi h1 h2=>?_;have:=s.agree i (λj o hj _ hl=>by rw[hallf j o hj]at hl;cases hl)
    simpa [h1,h2] using this
   have hd:=s.dfr
   cases r;cases a;simp_all
  subst hra;have hE0:Region.ready .any ops E=[]:=by
   cases hx:Region.ready .any ops E with
   | nil=>rfl
   | cons p l =>
    obtain⟨hun,o,ho,_⟩:=mem_ready.1 (show p ∈ Region.ready .any ops E by rw[hx];simp);have:=s.sub p (hallf p o ho);rw[Zva (by rw[hsz];exact ZEa ho),this]at hun
    cases hun
  refine⟨?_,hend hE0⟩
  cases hx:Region.ready .any ops listed with
  | nil=>rfl
  | cons p l =>
   obtain⟨hun,_⟩:=mem_ready.1 (show p ∈ Region.ready .any ops listed by rw[hx];simp);rw[hall p]at hun;cases hun
 | succ fuel ih =>
  intro listed r hfuel s;refine⟨λh0=>?_,λi hi=>?_⟩
  ·obtain⟨j,hj,hl⟩:=Zbg (show left listed≠0 by omega);exact absurd h0 (Zmh hF s.size (j+1) j (by omega) (by rw[← s.size];exact hj) hl)
  ·obtain⟨hun,o,ho,hall⟩:=mem_ready.1 hi;have his:i<listed.size:=by rw[s.size];exact ZEa ho
   have hunf:listed.getD i false=false:=by rw[← Zva his];exact hun
   have hiE:i<E.size:=by rw[hsz];exact ZEa ho
   obtain⟨hev,hwd⟩:=s.eval hF ho hall;have hfuel':left (listed.setIfInBounds i true)=fuel:=by have:=ZCd hun;omega
   have hclosed:∀ (j:Nat) (oj:Oper),ops[j]? = some oj→(listed.setIfInBounds i true).getD j false=true→∀ e ∈ oj.after,Region.binds .any e=true→(listed.setIfInBounds i true).getD e.on false=true:=by
    intro j oj hj hlj e he hb;have:listed.getD e.on false=true:=by
     by_cases hij:i=j
     ·subst hij;rw[ho]at hj;cases hj;exact hall e he hb
     ·rw[ZU hij]at hlj;exact s.closed j oj hj hlj e he hb
    by_cases hie:i=e.on
    ·rw[← hie];exact Zka his
    ·rw[ZU hie];exact this
   unfold wpOp;simp only[ho];rw[hwd];by_cases hEi:E.getD i false=true
   ·obtain⟨hfi,d,hd,k1,k2⟩:=s.pend i o ho hEi hunf;have next:wpAny P .any ops Q fuel (listed.setIfInBounds i true) (r.put (some d) (a.tmps.getD d undef)) w:=by
     refine ih _ _ hfuel' ⟨by simp[s.size],λj hj=>?_,hclosed,λj oj hj hEj hl=>?_,by rw[Z1d];exact s.tmps,by rw[Zbf];exact s.dfr,λt ht=>?_⟩
     ·by_cases hij:i=j
      ·subst hij;exact hEi
      ·rw[ZU hij]at hj;exact s.sub j hj
     ·by_cases hij:i=j
      ·subst hij;rw[Zka his]at hl;cases hl
      ·rw[ZU hij]at hl;exact s.pend j oj hj hEj hl
     ·by_cases hdt:d=t
      ·subst hdt;rcases Nat.lt_or_ge d r.tmps.size with h1 | h1
       ·rw[Zgd h1]
       ·have h2:a.tmps.size≤d:=by rw[← s.tmps];exact h1
        rw[ZDg h1];simp[Array.getElem?_eq_none h2]
      ·rw[Z5a hdt];refine s.agree t λj oj hj hEj hl=>?_;by_cases hij:i=j
       ·subst hij;rw[ho]at hj;cases hj;rw[hd];exact λe=>hdt (Option.some.inj e)
       ·exact ht j oj hj hEj (by rw[ZU hij];exact hl)
    by_cases hw:Region.wanted o (yielded ops a.tmps)=true
    ·rw[iP hw];refine .inl ?_;unfold Oper.wp;rw[hev,k1 hw,Oper.upon_value,hd];exact next
    ·rw[iN hw,hd];rw[k2 (by simpa using hw)]at next;exact next
   ·have hEif:E.getD i false=false:=by simpa using hEi
    have hready:i ∈ Region.ready .any ops E:=mem_ready.2 ⟨by rw[Zva hiE];exact hEif,o,ho,λe he hb=>s.sub _ (hall e he hb)⟩;obtain⟨o',A,J,ho',hA,hAJ,hstep⟩:=h i hready;rw[ho]at ho';cases ho';have hAl:=Zuh ho hall s.closed A [] hA (λg hg=>by cases hg);have sim:∀ (x:Value) (w':World),(∀ j ∈ J,∀ oj,ops[j]? = some oj→Zgb P ops oj (a.put o.dst x) w')→Rg P ops Q fl (E.setIfInBounds i true) (a.put o.dst x) w' →
      wpAny P .any ops Q fuel (listed.setIfInBounds i true) (r.put o.dst x) w':=by
     intro x w' hJ hRg;have hEclosed:∀ (j:Nat) (oj:Oper),ops[j]? = some oj→(E.setIfInBounds i true).getD j false=true→∀ e ∈ oj.after,Region.binds .any e=true→(E.setIfInBounds i true).getD e.on false=true:=by
      intro j oj hj hlj e he hb;have:E.getD e.on false=true:=by
       by_cases hij:i=j
       ·subst hij;rw[ho]at hj;cases hj;exact s.sub _ (hall e he hb)
       ·rw[ZU hij]at hlj;exact hcl j oj hj hlj e he hb
      by_cases hie:i=e.on
      ·rw[← hie];exact Zka hiE
      ·rw[ZU hie];exact this
     refine hRg (by simp[hsz]) hEclosed fuel _ _ hfuel' ⟨by simp[s.size],λj hj=>?_,hclosed,λj oj hj hEj hl=>?_,by rw[Z1d,Z1d];exact s.tmps,by rw[Zbf,Zbf];exact s.dfr,λt ht=>?_⟩
     ·by_cases hij:i=j
      ·subst hij;exact Zka hiE
      ·rw[ZU hij]at hj ⊢;exact s.sub j hj
     ·by_cases hij:i=j
      ·subst hij;rw[Zka his]at hl;cases hl
      ·rw[ZU hij]at hEj hl;obtain⟨hfj,_⟩:=s.pend j oj hj hEj hl;refine⟨hfj,hJ j ?_ oj hj⟩;have:=List.all_eq_true.1 hAJ j (List.mem_range.2 (ZEa hj));simp only[hEj,hfj,Bool.and_self,Bool.not_true,Bool.false_or,Bool.or_eq_true]at this;rcases this with t | t
       ·have:=hAl j (by simpa using t);rw[hl]at this;cases this
       ·simpa using t
     ·have base:(∀ d,o.dst=some d→d≠t)→(r.put o.dst x).tmps.getD t undef=(a.put o.dst x).tmps.getD t undef:=by
       intro hne
       cases hd:o.dst with
       | none =>
        exact s.agree t λj oj hj hEj hl=>ht j oj hj (by
         by_cases hij:i=j
         ·subst hij;exact Zka hiE
         ·rw[ZU hij];exact hEj) (by
         by_cases hij:i=j
         ·subst hij;rw[hEif]at hEj;cases hEj
         ·rw[ZU hij];exact hl)
       | some d =>
        rw[Z5a (hne d hd),Z5a (hne d hd)];exact s.agree t λj oj hj hEj hl=>ht j oj hj (by
         by_cases hij:i=j
         ·subst hij;exact Zka hiE
         ·rw[ZU hij];exact hEj) (by
         by_cases hij:i=j
         ·subst hij;rw[hEif]at hEj;cases hEj
         ·rw[ZU hij];exact hl)
      cases hd:o.dst with
      | none=>rw[← hd];exact base (λd e=>by rw[hd]at e;cases e)
      | some d =>
       by_cases hdt:d=t
       ·subst hdt;rcases Nat.lt_or_ge d r.tmps.size with h1 | h1
        ·rw[Zgd h1,Zgd (by rw[← s.tmps];exact h1)]
        ·have h2:a.tmps.size≤d:=by rw[← s.tmps];exact h1
         rw[ZDg h1,ZDg h2]
       ·rw[← hd];exact base (λd' e=>by rw[hd]at e;cases e;exact hdt)
    by_cases hw:Region.wanted o (yielded ops a.tmps)=true
    ·rw[iP hw]at hstep ⊢;exact .inl (Zte hev hstep λx w' ⟨hJ,hRg⟩=>sim x w' hJ hRg)
    ·rw[iN hw]at hstep ⊢;exact sim undef w hstep.1 hstep.2
end
end Go.Eng
namespace Go.Eng
open Go.RowKit
section
variable {P:Program} {K:Nat} {w0:Base} {v0:Za} {σ:List (Nat×Value)} {ℓ:List Loc} {v:Za} {a:Act} {w:World}
variable {ops:Array Oper} {Q:Exit→Act→World→Prop} {rest:List Oper}
theorem St.drew (h:St K w0 v0 σ ℓ v a w):St K w0 v0 σ ℓ v a w.drew:=h.step (Ext.drew w) (VStep.ext h.vin (Ext.drew w))
theorem Zqd (w:World) (b k:Nat) (c:Array Value) (h:k≠b):(w.setRow b c).heap[k]? = w.heap[k]?:=setRow_other w b k c h
theorem Z5k {w0:Base} {w:World} (x:ExtB w0 w) {b:Nat} (hb:w0.wd.heap.size≤b∨b ∈ w0.lent) (c:Array Value):ExtB w0 (w.setRow b c) :=
 ⟨x.os,x.tape,x.output,by simp[World.setRow];exact x.size,λk hk hn=>by rw[Zqd _ _ _ _ (by rintro rfl;rcases hb with h | h;omega;exact hn h)];exact x.block k hk hn⟩
theorem ZCk {w:World} {b:Nat} {c:Array Value} {e:Loc} (k:e.holds w) (hb:∀ b',e.blk=some b'→b'≠b):e.holds (w.setRow b c):=by
 cases e with
 | box b' T cs=>show _=_;rw[Zqd _ _ _ _ (hb b' rfl)];exact k
 | own b' T sz n cap cs =>
  cases b' with
  | none=>exact k
  | some b'=>obtain⟨h1,c',h2,h3⟩:=k;exact⟨h1,c',by rw[Zqd _ _ _ _ (hb b' rfl)];exact h2,h3⟩
 | mp b' l=>obtain⟨es,c',h1,h2⟩:=k;exact⟨es,c',by rw[Zqd _ _ _ _ (hb b' rfl)];exact h1,h2⟩
theorem Z1g {ℓ:List Loc} {i:Nat} {e e':Loc} (h:ℓ[i]? = some e) (hb:e'.blk=e.blk):(ℓ.set i e').filterMap Loc.blk=ℓ.filterMap Loc.blk:=by
 induction ℓ generalizing i with
 | nil=>simp at h
 | cons x l ih =>
  cases i with
  | zero=>simp at h;subst h;simp[List.filterMap_cons,hb]
  | succ i=>simp at h;simp[List.filterMap_cons,ih h]
theorem Zwf {ℓ:List Loc} {i:Nat} {e:Loc} {b:Nat} (hn:(ℓ.filterMap Loc.blk).Nodup) (h:ℓ[i]? = some e) (hb:e.blk=some b) :
  ∀ (j:Nat) (x:Loc),ℓ[j]? = some x→j≠i→∀ b',x.blk=some b'→b'≠b:=by
 induction ℓ generalizing i with
 | nil=>simp at h
 | cons y l ih =>
  intro j x hj hji b' hb' he;subst he
  cases i with
  | zero =>
   simp at h;subst h
   cases j with
   | zero=>exact hji rfl
   | succ j =>
    simp at hj;rw[List.filterMap_cons_some hb]at hn;exact (List.nodup_cons.1 hn).1 (List.mem_filterMap.2 ⟨x,mG hj,hb'⟩)
  | succ i =>
   simp at h
   cases j with
   | zero =>
    simp at hj;subst hj;rw[List.filterMap_cons_some hb']at hn;exact (List.nodup_cons.1 hn).1 (List.mem_filterMap.2 ⟨e,mG h,hb⟩)
   | succ j =>
    simp at hj;have hn':(l.filterMap Loc.blk).Nodup:=by
     cases hy:y.blk with
     | none=>rw[List.filterMap_cons_none hy]at hn;exact hn
     | some by'=>rw[List.filterMap_cons_some hy]at hn;exact (List.nodup_cons.1 hn).2
    exact ih hn' h j x hj (by omega) b' hb' rfl
theorem St.setRow (h:St K w0 v0 σ ℓ v a w) {i b:Nat} {e e':Loc} {c:Array Value} (hi:ℓ[i]? = some e) (hb:e.blk=some b) (hb':e'.blk=some b) (hh:e'.holds (w.setRow b c)) :
  St K w0 v0 σ (ℓ.set i e') v a (w.setRow b c):=by
 obtain⟨he,hv⟩:=h.loc e (mG hi);obtain⟨hge,hnone⟩:=hv b hb;have hx:=Z5k h.ext hge c;refine⟨h.size,h.dfr,h.fr,hx,⟨h.vst.le,λk o hk=>?_,h.vst.old⟩,λx hx'=>?_,?_⟩
 ·rw[Zqd _ _ _ _ (λe=>by subst e;rw[hnone]at hk;cases hk)];exact h.vin k o hk
 ·obtain⟨j,hj⟩:=List.getElem?_of_mem hx';by_cases hji:j=i
  ·subst hji;have hlt:j<ℓ.length:=(List.getElem?_eq_some_iff.1 hi).1;rw[List.getElem?_set_self hlt]at hj
   cases hj
   refine⟨hh,λb2 h2=>?_⟩;rw[hb']at h2;cases h2;exact⟨hge,hnone⟩
  ·rw[List.getElem?_set_ne (λe=>hji e.symm)]at hj;obtain⟨h1,h2⟩:=h.loc x (mG hj);exact⟨ZCk h1 (Zwf h.nd hi hb j x hj hji),h2⟩
 ·rw[Z1g hi (hb'.trans hb.symm)];exact h.nd
theorem Zak {α:Type} (l cs:List α) (n off:Nat) (h:off+cs.length≤n) (hn:n≤l.length) :
  (l.take off++cs++l.drop (off+cs.length)).take n=(l.take n).take off++cs++(l.take n).drop (off+cs.length):=by
 have h1:(l.take off++cs).length=off+cs.length:=by simp;omega
 rw[List.take_append,List.take_of_length_le (by omega),List.take_take,Nat.min_eq_left (by omega),List.drop_take,h1]
theorem Zkk (x:Value):plain x=x.oneCell':=by cases x <;> rfl
theorem Z6h {cs:List Value} (h:cs.all plain=true):∀ x ∈ cs,x.oneCell'=true:=λx hx=>by
 rw[← Zkk];exact List.all_eq_true.1 h x hx
def cellsOf (z:Value) (cs:List Value):Prop:=z.cells=cs.toArray
theorem Z2l (cs:List Value):cellsOf (.agg cs.toArray) cs:=rfl
theorem ZKc {z:Value} (h:plain z=true):cellsOf z [z]:=by cases z <;> first | rfl | cases h
variable {d:Option Nat} {ty:TypeId} {pos:String} {aft:Array Edge} {g:Option (Nat×Bool)}
theorem ZVj {t T:TypeId} {b off:Nat} {agg:Bool} {z:Value} {cs:List Value} {cur:Array Value} (ht:Sized P t cs.length agg) (hz:cellsOf z cs) (hg:w.heap[b]? = some (.cells cur T (0,0)))
  (hfit:off+cs.length≤cur.size) (hp:cs.all plain=true):(Instr.storeAt t (.pointer (some ⟨b,off,none⟩)) z).run P w = .ok () (w.setRow b (cur.toList.take off++cs++cur.toList.drop (off+cs.length)).toArray):=by
 have:=run_storeCells_at P b off T cs 0 cur w hg (by simpa using hfit) (Z6h hp);simp only[Nat.add_zero]at this;have hz':z.cells=cs.toArray:=hz;simp[Instr.storeAt,Instr.sureAddr,storeVar,hz',ht.size,this]
theorem Zbj (hS:St K w0 v0 σ ℓ v a w) {t:TypeId} {x y:Operand} {p z:Value} {w':World} (e:ev σ x=some p) (ey:ev σ y=some z) (h:(Instr.storeAt t p z).run P w = .ok () w') :
  (execOp a.eval ⟨d,.store t x y,ty,pos,aft,g⟩).run P w = .ok .skip w':=by
 simp[execOp,hS.eval e,hS.eval ey,h]
theorem ZRj (hS:St K w0 v0 σ ℓ v a w) {t T:TypeId} {n b off i:Nat} {agg:Bool} {z:Value} {cs cs0:List Value} (ht:Sized P t n agg)
  (hz:cellsOf z cs) (hn:cs.length=n) (hi:ℓ[i]? = some (.box b T cs0)) (hfit:off+n≤cs0.length) (hp:cs.all plain=true) :
  ∃ w',(∀ {d:Option Nat} {ty:TypeId} {pos:String} {aft:Array Edge} {g:Option (Nat×Bool)} {x y:Operand},ev σ x=some (.pointer (some ⟨b,off,none⟩))→ev σ y=some z→(execOp a.eval ⟨d,.store t x y,ty,pos,aft,g⟩).run P w = .ok .skip w')∧St K w0 v0 σ (ℓ.set i (.box b T (cs0.take off++cs++cs0.drop (off+cs.length)))) v a w':=by
 subst hn;have hg:w.heap[b]? = some (.cells cs0.toArray T (0,0)):=(hS.loc _ (mG hi)).1;have hr:=ZVj (P:=P) ht hz hg (by simpa using hfit) hp;refine⟨_,λe ey=>Zbj hS e ey hr,hS.setRow hi rfl rfl ?_⟩;show _=_;exact setRow_heap w b _ _ T _ hg
theorem ZSc (hS:St K w0 v0 σ ℓ v a w) {t T:TypeId} {n m cap sz b off i:Nat} {agg:Bool} {z:Value} {cs cs0:List Value} (ht:Sized P t n agg)
  (hz:cellsOf z cs) (hn:cs.length=n) (hi:ℓ[i]? = some (.own (some b) T sz m cap cs0)) (hfit:off+n≤cs0.length) (hp:cs.all plain=true) :
  ∃ w',(∀ {d:Option Nat} {ty:TypeId} {pos:String} {aft:Array Edge} {g:Option (Nat×Bool)} {x y:Operand},ev σ x=some (.pointer (some ⟨b,off,none⟩))→ev σ y=some z→(execOp a.eval ⟨d,.store t x y,ty,pos,aft,g⟩).run P w = .ok .skip w')∧St K w0 v0 σ (ℓ.set i (.own (some b) T sz m cap (cs0.take off++cs++cs0.drop (off+cs.length)))) v a w':=by
 subst hn;obtain⟨hl,cur,hg,hm,hc,hs,htk⟩:=(hS.loc _ (mG hi)).1;have hle:m*sz≤cur.size:=by rw[hs];exact Nat.mul_le_mul_right _ hm
 have hfit':off+cs.length≤cur.size:=by omega
 have hr:=ZVj (P:=P) (cs:=cs) ht hz hg hfit' hp;refine⟨_,λe ey=>Zbj hS e ey hr,hS.setRow hi rfl rfl ⟨?_,_,setRow_heap w b cur _ T _ hg,hm,hc,?_,?_⟩⟩
 ·simp;omega
 ·simp;omega
 ·rw[← htk];exact Zak _ _ _ _ (by omega) (by simpa using hle)
def ZM (P:Program) (f:FuncId):Prop:=∀ args w,(callFunc f args).run P w = .ok (.enter f args) w
theorem ZKi (hS:St K w0 v0 σ ℓ v a w) {x:Operand} {f:FuncId} {cap:Array Value} {xs:Array Operand} {ats:Array TypeId} {vals:List Value} (hf:ZM P f) (e:ev σ x=some (.func (.func f) #[] cap))
  (h:xs.toList.map (ev σ)=vals.map some):(execOp a.eval ⟨d,.call ⟨.value x,xs,ats⟩,ty,pos,aft,g⟩).run P w = .ok (.enter f (vals.toArray++cap)) w:=by
 have hx:xs.map a.eval=vals.toArray:=by
  apply Array.ext';rw[Array.toList_map];generalize xs.toList=l at h
  induction l generalizing vals with
  | nil=>cases vals <;> simp_all
  | cons y l ih =>
   cases vals with
   | nil=>simp at h
   | cons u vals=>simp at h;simp[hS.eval h.1,ih h.2]
 simp[execOp,resolve,Deferred.ofValue,invoke,hS.eval e,hx,hf _ w]
theorem Zta {o:Oper} {y:Nat→Option Bool} (h:o.guard=none):Region.wanted o y=true:=by simp[Region.wanted,h]
theorem ZYe {o:Oper} (hS:St K w0 v0 σ ℓ v a w) {gi t:Nat} {want:Bool} (hg:o.guard=some (gi,want)) (hgd:(ops[gi]?).bind (·.dst)=some t) (ht:look σ t=some (.bool want)) (hK:t<K):Region.wanted o (yielded ops a.tmps)=true:=by
 have h1:=hS.fr t _ ht;have h2:t<a.tmps.size:=by rw[hS.size];exact hK
 simp[h2]at h1;simp[Region.wanted,hg,yielded,hgd,h2,h1]
theorem Zif {o:Oper} (hS:St K w0 v0 σ ℓ v a w) {gi t:Nat} {want:Bool} (hg:o.guard=some (gi,want)) (hgd:(ops[gi]?).bind (·.dst)=some t) (ht:look σ t=some (.bool !want)) (hK:t<K):Region.wanted o (yielded ops a.tmps)=false:=by
 have h1:=hS.fr t _ ht;have h2:t<a.tmps.size:=by rw[hS.size];exact hK
 simp[h2]at h1;simp[Region.wanted,hg,yielded,hgd,h2,h1]
theorem Zdh {o:Oper} (hS:St K w0 v0 σ ℓ v a w) {gi t:Nat} {want:Bool} (hg:o.guard=some (gi,want)) (hgd:(ops[gi]?).bind (·.dst)=some t) (ht:look σ t=some undef) (hK:t<K):Region.wanted o (yielded ops a.tmps)=false:=by
 have h1:=hS.fr t _ ht;have h2:t<a.tmps.size:=by rw[hS.size];exact hK
 simp[h2]at h1;simp[Region.wanted,hg,yielded,hgd,h2,h1,undef]
theorem ZMl {o:Oper} (hw:Region.wanted o (yielded ops a.tmps)=true) (h:∀ N:Act→World→Prop,(∀ a w,wpList P ops Q rest a w→N a w)→o.wp P a w N Q):wpList P ops Q (o :: rest) a w :=
 wpList_step λ_ hN=>by rw[iP hw];exact h _ hN
theorem ZVd {o:Oper} (hw:Region.wanted o (yielded ops a.tmps)=true) (h:Zja P o a w λx w'=>wpList P ops Q rest (a.put o.dst x) w'):wpList P ops Q (o :: rest) a w :=
 ZMl hw λ_ hN=>Zte rfl h λ_ _ hx=>hN _ _ hx
theorem op_v {o:Oper} {d:Nat} {x:Value} (hS:St K w0 v0 σ ℓ v a w) (hw:Region.wanted o (yielded ops a.tmps)=true) (hd:o.dst=some d) (hK:d<K) (hrun:(execOp a.eval o).run P w = .ok (.value x) w)
  (h:∀ a,St K w0 v0 ((d,x) :: σ) ℓ v a w→wpList P ops Q rest a w):wpList P ops Q (o :: rest) a w :=
 ZVd hw (Zrd hrun (by rw[hd];exact h _ (hS.put x hK)))
theorem op_new {o:Oper} {d:Nat} {T:TypeId} {cs:List Value} (hS:St K w0 v0 σ ℓ v a w) (hw:Region.wanted o (yielded ops a.tmps)=true) (hd:o.dst=some d) (hK:d<K)
  (hrun:(execOp a.eval o).run P w = .ok (.value (.pointer (some ⟨w.heap.size,0,none⟩))) (w.alloc (.cells cs.toArray T)))
  (h:∀ b a w,St K w0 v0 ((d,.pointer (some ⟨b,0,none⟩)) :: σ) (.box b T cs :: ℓ) v a w→wpList P ops Q rest a w):wpList P ops Q (o :: rest) a w :=
 ZVd hw (Zrd hrun (by
  rw[hd]
  exact h w.heap.size _ _ ((hS.newLoc (.cells cs.toArray T) (e:=.box w.heap.size T cs) rfl (heap_alloc_new w _)).put _ hK)))
theorem op_end (h:Q .normal a w):wpList P ops Q [] a w:=h
theorem least {p:Nat→Prop} (n:Nat) (h:p n):∃ m,p m∧∀ k,p k→m≤k:=by
 induction n using Nat.strongRecOn with
 | _ n ih =>
  by_cases hx:∃ m,m<n∧p m
  ·obtain⟨m,h1,h2⟩:=hx;exact ih m h1 h2
  ·exact⟨n,h,λk hk=>Nat.le_of_not_lt λhlt=>hx ⟨k,hlt,hk⟩⟩
open Classical in
theorem wp_loop_fuel {c:Code} (I:Nat→Act→World→Prop) (n:Nat) (h0:I n a w) (hz:∀ a w,¬ I 0 a w)
  (round:∀ n a w,I (n+1) a w→∀ N:Act→World→Prop,(∀ a w,I n a w→N a w)→c.wp P (Exit.then N Q) a w):(Code.loop c).wp P Q a w:=by
 let μ:Act→World→Nat:=λa w=>if h:∃ m,I m a w∧∀ k,I k a w→m≤k then h.choose else 0
 have hμ:∀ a w k,I k a w→I (μ a w) a w∧μ a w≤k:=by
  intro a w k hk;have hex:=least (p:=λk=>I k a w) k hk;have:μ a w=hex.choose:=dif_pos hex;rw[this];exact⟨hex.choose_spec.1,hex.choose_spec.2 k hk⟩
 refine wp_loop (λa w=>∃ k,I k a w) μ ⟨n,h0⟩ λa w ⟨k,hk⟩=>?_;obtain⟨h1,_⟩:=hμ a w k hk
 cases hm:μ a w with
 | zero=>rw[hm]at h1;exact absurd h1 (hz a w)
 | succ m =>
  rw[hm]at h1;exact round m a w h1 _ λa' w' h'=>⟨⟨m,h'⟩,by have:=(hμ a' w' m h').2;omega⟩
end
end Go.Eng
namespace Go.Eng
open Go.RowKit
def bnd {α β:Type} (x:Option α) (f:α→Option β):Option β:=match x with
 | some y=>f y
 | none=>none
theorem Zbc {α β:Type} {x:Option α} {f:α→Option β} {r:β} (h:bnd x f=some r):∃ y,x=some y∧f y=some r:=by
 cases x with
 | none=>cases h
 | some y=>exact⟨y,rfl,h⟩
def ifb {α:Type} (b:Bool) (x y:Option α):Option α:=match b with
 | true=>x
 | false=>y
open Classical in
noncomputable def grd {α:Type} (p:Prop) (x:Option α):Option α:=if p then x else none
def Zl {σ ρ:Type} (body:σ→Option (σ ⊕ ρ)):Nat→σ→Option ρ
 | 0,_=>none
 | n+1,s=>bnd (body s) fun
  | .inl s'=>Zl body n s'
  | .inr r=>some r
theorem ZOk {σ ρ:Type} {body:σ→Option (σ ⊕ ρ)} {s:σ} {r:ρ}:¬ Zl body 0 s=some r:=λh=>by cases h
theorem ZVk {σ ρ:Type} {body:σ→Option (σ ⊕ ρ)} {n:Nat} {s:σ} {r:ρ} (h:Zl body (n+1) s=some r) :
  ∃ x,body s=some x∧((∃ s',x = .inl s'∧Zl body n s'=some r)∨x = .inr r):=by
 obtain⟨x,h1,h2⟩:=Zbc h;refine⟨x,h1,?_⟩
 cases x with
 | inl s'=>exact .inl ⟨s',rfl,h2⟩
 | inr r'=>exact .inr (by cases h2;rfl)
def Zu:Nat:=2^70
def inR (k:IntKind) (x:Int):Prop:=k.min≤x∧x≤k.max
instance (k:IntKind) (x:Int):Decidable (inR k x):=inferInstanceAs (Decidable (_∧_))
theorem Z2a {x:Int}:inR .i64 x ↔ -9223372036854775808≤x∧x≤9223372036854775807:=Iff.rfl
theorem Zhj {x:Int}:inR .u64 x↔0≤x∧x≤18446744073709551615:=Iff.rfl
theorem Z6g {x:Int}:inR .u32 x↔0≤x∧x≤4294967295:=Iff.rfl
theorem Zoj {x:Int}:inR .u8 x↔0≤x∧x≤255:=Iff.rfl
theorem ZGi {x:Int}:inR .i32 x ↔ -2147483648≤x∧x≤2147483647:=Iff.rfl
theorem Zub (k:IntKind) (x:Int):inR k (k.wrap x):=by
 cases k
 ·simp only[inR,IntKind.wrap,IntKind.min,IntKind.max,IntKind.signed,IntKind.bits];simp;first | omega | (split <;> omega)
 ·simp only[inR,IntKind.wrap,IntKind.min,IntKind.max,IntKind.signed,IntKind.bits];simp;first | omega | (split <;> omega)
 ·rw[ZGi,IntKind.wrap_i32];omega
 ·rw[Z2a,IntKind.wrap_i64];omega
 ·rw[Zoj,IntKind.wrap_u8];omega
 ·simp only[inR,IntKind.wrap,IntKind.min,IntKind.max,IntKind.signed,IntKind.bits];simp;first | omega | (split <;> omega)
 ·rw[Z6g,IntKind.wrap_u32];omega
 ·rw[Zhj,IntKind.wrap_u64];omega
theorem ZIc {k:IntKind} {x:Int} (h:inR k x):k.wrap x=x:=by
 cases k
 ·simp only[inR,IntKind.wrap,IntKind.min,IntKind.max,IntKind.signed,IntKind.bits] at *;simp at *;first | omega | (split <;> omega)
 ·simp only[inR,IntKind.wrap,IntKind.min,IntKind.max,IntKind.signed,IntKind.bits] at *;simp at *;first | omega | (split <;> omega)
 ·rw[ZGi]at h;rw[IntKind.wrap_i32];omega
 ·rw[Z2a]at h;rw[IntKind.wrap_i64];omega
 ·rw[Zoj]at h;rw[IntKind.wrap_u8];omega
 ·simp only[inR,IntKind.wrap,IntKind.min,IntKind.max,IntKind.signed,IntKind.bits] at *;simp at *;first | omega | (split <;> omega)
 ·rw[Z6g]at h;rw[IntKind.wrap_u32];omega
 ·rw[Zhj]at h;rw[IntKind.wrap_u64];omega
def chk (k:IntKind) (x:Int):Option Int:=if inR k x then some x else none
theorem ZZb {k:IntKind} {x z:Int} (h:chk k x=some z):z=x∧inR k z:=by
 unfold chk at h;split at h
 ·cases h;exact⟨rfl,‹_›⟩
 ·cases h
theorem chk_eq {k:IntKind} {x:Int} (h:inR k x):chk k x=some x:=iP h
section
variable {P:Program} {K:Nat} {w0:Base} {v0:Za} {σ:List (Nat×Value)} {ℓ:List Loc} {v:Za} {a:Act} {w:World}
variable {d:Option Nat} {ty:TypeId} {pos:String} {aft:Array Edge} {g:Option (Nat×Bool)}
theorem ZQg (hS:St K w0 v0 σ ℓ v a w) {op:BinOp} {t t':TypeId} {x y:Operand} {k k':IntKind} {p q:Int} {z:Value} (e:ev σ x=some (.int k p)) (e':ev σ y=some (.int k' q))
  (h:∀ w,(binOp op t (.int k p) (.int k' q)).run P w = .ok z w):(execOp a.eval ⟨d,.binOp op t x y t',ty,pos,aft,g⟩).run P w = .ok (.value z) w:=by
 cases op <;> simp[execOp,hS.eval e,hS.eval e',eqGuard,h]
theorem bin_add {t:TypeId} {k:IntKind} {p q z:Int} (h:chk k (p+q)=some z) (w:World):(binOp .add t (.int k p) (.int k q)).run P w = .ok (.int k z) w:=by
 obtain⟨rfl,h⟩:=ZZb h;simp[binOp,Op.intArith,ZIc h]
theorem bin_sub {t:TypeId} {k:IntKind} {p q z:Int} (h:chk k (p-q)=some z) (w:World):(binOp .sub t (.int k p) (.int k q)).run P w = .ok (.int k z) w:=by
 obtain⟨rfl,h⟩:=ZZb h;simp[binOp,Op.intArith,ZIc h]
theorem bin_mul {t:TypeId} {k:IntKind} {p q z:Int} (h:chk k (p*q)=some z) (w:World):(binOp .mul t (.int k p) (.int k q)).run P w = .ok (.int k z) w:=by
 obtain⟨rfl,h⟩:=ZZb h;simp[binOp,Op.intArith,ZIc h]
theorem Z4l {t:TypeId} {k:IntKind} {p q:Int} (w:World):(binOp .add t (.int k p) (.int k q)).run P w = .ok (.int k (k.wrap (p+q))) w:=by simp[binOp,Op.intArith]
theorem ZIk {t:TypeId} {k:IntKind} {p q:Int} (w:World):(binOp .sub t (.int k p) (.int k q)).run P w = .ok (.int k (k.wrap (p-q))) w:=by simp[binOp,Op.intArith]
theorem Zfm {t:TypeId} {k:IntKind} {p q:Int} (w:World):(binOp .mul t (.int k p) (.int k q)).run P w = .ok (.int k (k.wrap (p*q))) w:=by simp[binOp,Op.intArith]
def quo (k:IntKind) (p q:Int):Option Int:=if q=0 then none else chk k (p.tdiv q)
def rem (_k:IntKind) (p q:Int):Option Int:=if q=0 then none else some (p.tmod q)
theorem bin_quo {t:TypeId} {k:IntKind} {p q z:Int} (h:quo k p q=some z) (w:World):(binOp .quo t (.int k p) (.int k q)).run P w = .ok (.int k z) w:=by
 unfold quo at h;split at h
 ·cases h
 ·rename_i hq;obtain⟨rfl,h⟩:=ZZb h;simp[binOp,Op.intDiv,hq,ZIc h]
theorem bin_rem {t:TypeId} {k:IntKind} {p q z:Int} (h:rem k p q=some z) (w:World):(binOp .rem t (.int k p) (.int k q)).run P w = .ok (.int k z) w:=by
 unfold rem at h;split at h
 ·cases h
 ·rename_i hq
  cases h
  simp[binOp,Op.intDiv,hq]
theorem quo_inR {k:IntKind} {p q z:Int} (h:quo k p q=some z):inR k z:=by
 unfold quo at h;split at h
 ·cases h
 ·exact (ZZb h).2
theorem rem_inR {k:IntKind} {p q z:Int} (hp:inR k p) (h:rem k p q=some z):inR k z:=by
 unfold rem at h;split at h
 ·cases h
 ·rename_i hq
  cases h
  have h1:(p.tmod q).natAbs≤p.natAbs:=by rw[Int.natAbs_tmod];exact Nat.mod_le _ _
  have h2:0≤p→0≤p.tmod q:=λh=>Int.tmod_nonneg _ h;have h3:p≤0→p.tmod q≤0:=λh=>by
   have:=Int.tmod_nonneg (a:=-p) q (by omega);rw[Int.neg_tmod]at this;omega
  have h0:k.min≤0∧0≤k.max:=by cases k <;> decide
  unfold inR at *;omega
theorem bin_lss {t:TypeId} {k:IntKind} {p q:Int} (w:World):(binOp .lss t (.int k p) (.int k q)).run P w = .ok (.bool (decide (p<q))) w:=by simp[binOp,Op.intCmp]
theorem bin_leq {t:TypeId} {k:IntKind} {p q:Int} (w:World):(binOp .leq t (.int k p) (.int k q)).run P w = .ok (.bool (decide (p≤q))) w:=by simp[binOp,Op.intCmp]
theorem bin_gtr {t:TypeId} {k:IntKind} {p q:Int} (w:World):(binOp .gtr t (.int k p) (.int k q)).run P w = .ok (.bool (decide (q<p))) w:=by simp[binOp,Op.intCmp]
theorem bin_geq {t:TypeId} {k:IntKind} {p q:Int} (w:World):(binOp .geq t (.int k p) (.int k q)).run P w = .ok (.bool (decide (q≤p))) w:=by simp[binOp,Op.intCmp]
theorem bin_eql {t:TypeId} {k:IntKind} {p q:Int} (w:World):(binOp .eql t (.int k p) (.int k q)).run P w = .ok (.bool (p==q)) w:=by simp[binOp,Op.intCmp]
theorem bin_neq {t:TypeId} {k:IntKind} {p q:Int} (w:World):(binOp .neq t (.int k p) (.int k q)).run P w = .ok (.bool (p != q)) w:=by simp[binOp,Op.intCmp]
def shlI (k:IntKind) (p q:Int):Option Int:=if q<0 then none else some (k.wrap (p*2^(min q.toNat k.bits)))
def shrI (k:IntKind) (p q:Int):Option Int:=if q<0 then none else some (p.fdiv (2^(min q.toNat k.bits)))
theorem bin_shl {t:TypeId} {k k':IntKind} {p q z:Int} (h:shlI k p q=some z) (w:World):(binOp .shl t (.int k p) (.int k' q)).run P w = .ok (.int k z) w:=by
 unfold shlI at h;split at h
 ·cases h
 ·rename_i hq;cases h;simp[binOp,Op.shift,hq]
theorem bin_shr {t:TypeId} {k k':IntKind} {p q z:Int} (h:shrI k p q=some z) (w:World):(binOp .shr t (.int k p) (.int k' q)).run P w = .ok (.int k z) w:=by
 unfold shrI at h;split at h
 ·cases h
 ·rename_i hq;cases h;simp[binOp,Op.shift,hq]
def andI (k:IntKind) (p q:Int):Int:=k.wrap (BitVec.ofInt k.bits p &&& BitVec.ofInt k.bits q).toNat
def orI (k:IntKind) (p q:Int):Int:=k.wrap (BitVec.ofInt k.bits p ||| BitVec.ofInt k.bits q).toNat
theorem bin_and {t:TypeId} {k:IntKind} {p q:Int} (w:World):(binOp .and t (.int k p) (.int k q)).run P w = .ok (.int k (andI k p q)) w:=by simp[binOp,Op.intBits,andI]
theorem bin_or {t:TypeId} {k:IntKind} {p q:Int} (w:World):(binOp .or t (.int k p) (.int k q)).run P w = .ok (.int k (orI k p q)) w:=by simp[binOp,Op.intBits,orI]
end
structure Rep (α:Type) where
 n:Nat
 agg:Bool
 rel:Za→List Value→α→Prop
 len:∀ {v cs x},rel v cs x→cs.length=n
 mono:∀ {v v' cs x},v.le v'→rel v cs x→rel v' cs x
 flat:∀ {v cs x},rel v cs x→cs.all plain=true
def Rep.val {α:Type} (A:Rep α) (cs:List Value):Value:=match A.agg with
 | true=>.agg cs.toArray
 | false=>cs.headD undef
def Zs (k:IntKind):Rep Int where
 n:=1
 agg:=false
 rel _ cs x:=cs=[.int k x]∧inR k x
 len h:=by rw[h.1];rfl
 mono _ h:=h
 flat h:=by rw[h.1];rfl
def ZQc:Rep Bool where
 n:=1
 agg:=false
 rel _ cs x:=cs=[.bool x]
 len h:=by rw[h];rfl
 mono _ h:=h
 flat h:=by rw[h];rfl
def Zg (l:List UInt8):ByteArray:=⟨l.toArray⟩
def ZGa:Rep (List UInt8) where
 n:=1
 agg:=false
 rel _ cs x:=cs=[.string (Zg x)]∧x.length≤maxLen
 len h:=by rw[h.1];rfl
 mono _ h:=h
 flat h:=by rw[h.1];rfl
def ZI {α β:Type} (A:Rep α) (B:Rep β):Rep (α×β) where
 n:=A.n+B.n
 agg:=true
 rel v cs x:=∃ c1 c2,cs=c1++c2∧A.rel v c1 x.1∧B.rel v c2 x.2
 len h:=by obtain⟨c1,c2,rfl,h1,h2⟩:=h;simp[A.len h1,B.len h2]
 mono hv h:=by obtain⟨c1,c2,rfl,h1,h2⟩:=h;exact⟨c1,c2,rfl,A.mono hv h1,B.mono hv h2⟩
 flat h:=by obtain⟨c1,c2,rfl,h1,h2⟩:=h;rw[List.all_append,A.flat h1,B.flat h2];rfl
def Rep.via {α β:Type} (A:Rep β) (f:α→β):Rep α where
 n:=A.n
 agg:=A.agg
 rel v cs x:=A.rel v cs (f x)
 len h:=A.len h
 mono hv h:=A.mono hv h
 flat h:=A.flat h
def rOne {α:Type} (A:Rep α):Rep α where
 n:=A.n
 agg:=true
 rel v cs x:=A.rel v cs x
 len h:=A.len h
 mono hv h:=A.mono hv h
 flat h:=A.flat h
def Rep.rels {α:Type} (A:Rep α) (v:Za):List Value→List α→Prop
 | cs,[]=>cs=[]
 | cs,x :: l=>∃ c1 c2,cs=c1++c2∧A.rel v c1 x∧A.rels v c2 l
section
variable {α:Type} {A:Rep α} {v v':Za}
theorem Zkb:∀ {l:List α} {cs:List Value},A.rels v cs l→cs.length=l.length*A.n
 | [],cs,h=>by rw[show cs=[] from h];simp
 | x :: l,cs,h=>by obtain⟨c1,c2,rfl,h1,h2⟩:=h;simp[A.len h1,Zkb h2,Nat.succ_mul,Nat.add_comm]
theorem Zlb (hv:v.le v'):∀ {l:List α} {cs:List Value},A.rels v cs l→A.rels v' cs l
 | [],cs,h=>h
 | x :: l,cs,h=>by obtain⟨c1,c2,rfl,h1,h2⟩:=h;exact⟨c1,c2,rfl,A.mono hv h1,Zlb hv h2⟩
theorem ZDj:∀ {l:List α} {cs:List Value},A.rels v cs l→cs.all plain=true
 | [],cs,h=>by rw[show cs=[] from h];rfl
 | x :: l,cs,h=>by obtain⟨c1,c2,rfl,h1,h2⟩:=h;rw[List.all_append,A.flat h1,ZDj h2];rfl
theorem ZBc:∀ {l l':List α} {cs cs':List Value},A.rels v cs l→A.rels v cs' l'→A.rels v (cs++cs') (l++l')
 | [],l',cs,cs',h,h'=>by rw[show cs=[] from h];exact h'
 | x :: l,l',cs,cs',h,h'=>by obtain⟨c1,c2,rfl,h1,h2⟩:=h;exact⟨c1,c2++cs',by simp,h1,ZBc h2 h'⟩
theorem ZPg {c:List Value} {x:α} (h:A.rel v c x):A.rels v c [x]:=⟨c,[],by simp,h,rfl⟩
theorem ZUe:∀ {l:List α} {cs:List Value} (k:Nat),A.rels v cs l→A.rels v (cs.drop (k*A.n)) (l.drop k)
 | l,cs,0,h=>by simpa using h
 | [],cs,k+1,h=>by rw[show cs=[] from h];simp;rfl
 | x :: l,cs,k+1,h=>by
  obtain⟨c1,c2,rfl,h1,h2⟩:=h
  have:=ZUe k h2
  have e:(k+1)*A.n=c1.length+k*A.n:=by rw[A.len h1,Nat.succ_mul,Nat.add_comm]
  rw[e,List.drop_append,List.drop_of_length_le (by omega)]
  simpa using this
theorem ZLf:∀ {l:List α} {cs:List Value} (k:Nat),A.rels v cs l→A.rels v (cs.take (k*A.n)) (l.take k)
 | l,cs,0,h=>by simp;rfl
 | [],cs,k+1,h=>by rw[show cs=[] from h];simp;rfl
 | x :: l,cs,k+1,h=>by
  obtain⟨c1,c2,rfl,h1,h2⟩:=h
  have:=ZLf k h2
  have e:(k+1)*A.n=c1.length+k*A.n:=by rw[A.len h1,Nat.succ_mul,Nat.add_comm]
  refine⟨c1,c2.take (k*A.n),?_,h1,this⟩
  rw[e,List.take_append,List.take_of_length_le (by omega)]
  simp
theorem ZWa {l:List α} {cs:List Value} {i:Nat} {x:α} (h:A.rels v cs l) (hi:l[i]? = some x):A.rel v ((cs.drop (i*A.n)).take A.n) x:=by
 have h1:=ZUe i h;have hl:i<l.length:=(List.getElem?_eq_some_iff.1 hi).1;have h2:l.drop i=x :: l.drop (i+1):=by rw[List.drop_eq_getElem_cons hl];congr 1;exact (List.getElem?_eq_some_iff.1 hi).2
 rw[h2]at h1;obtain⟨c1,c2,e,h3,_⟩:=h1;rw[e,List.take_append,List.take_of_length_le (by rw[A.len h3];exact Nat.le_refl _),A.len h3]
 simpa using h3
theorem Zgm {l:List α} {cs c:List Value} {i:Nat} {x:α} (h:A.rels v cs l) (hi:i<l.length) (hc:A.rel v c x):A.rels v (cs.take (i*A.n)++c++cs.drop (i*A.n+c.length)) (l.set i x):=by
 have h1:=ZLf i h;have h2:=ZUe (i+1) h;have e:(i+1)*A.n=i*A.n+c.length:=by rw[A.len hc,Nat.succ_mul]
 rw[e]at h2;have:=ZBc (ZBc h1 (ZPg hc)) h2;rw[List.set_eq_take_append_cons_drop,iP hi]
 simpa using this
theorem ZLj {c:List Value} {x:α} (h:A.rel v c x):∀ (n:Nat),A.rels v ((List.replicate n c).flatten) (List.replicate n x)
 | 0=>rfl
 | n+1=>⟨c,(List.replicate n c).flatten,by simp[List.replicate_succ],h,ZLj h n⟩
end
def Zo {α:Type} (A:Rep α):Rep (List α) where
 n:=1
 agg:=false
 rel v cs l:=∃ q cap,cs=[.slice q l.length cap]∧l.length≤cap∧cap≤maxLen ∧
  (l=[] ∨ ∃ b off c T fr,q=some ⟨b,off,none⟩∧v b=some (.cells c T fr)∧A.rels v ((c.toList.drop off).take (l.length*A.n)) l)
 len h:=by obtain⟨q,cap,rfl,_⟩:=h;rfl
 mono hv h:=by
  obtain⟨q,cap,rfl,h1,h2,h3⟩:=h;refine⟨q,cap,rfl,h1,h2,?_⟩;rcases h3 with h3 | ⟨b,off,c,T,fr,e,hb,hr⟩
  ·exact .inl h3
  ·exact .inr ⟨b,off,c,T,fr,e,hv _ _ hb,Zlb hv hr⟩
 flat h:=by obtain⟨q,cap,rfl,_⟩:=h;rfl
theorem ZTd {α:Type} (A:Rep α) (v:Za):(Zo A).rel v [.slice none 0 0] ([]:List α):=⟨none,0,rfl,Nat.le_refl _,Nat.zero_le _,.inl rfl⟩
theorem Zkc {α:Type} {A:Rep α} {v:Za} {q:Option Addr} {n cap:Nat} {l:List α} {i:Nat} {x:α} (h:(Zo A).rel v [.slice q n cap] l) (hi:l[i]? = some x) :
  n=l.length∧∃ b off cs,q=some ⟨b,off,none⟩∧At v b (off+i*A.n) cs∧A.rel v cs x:=by
 obtain⟨q',cap',e,h1,h2,h3⟩:=h
 cases e
 refine⟨rfl,?_⟩;rcases h3 with rfl | ⟨b,off,c,T,fr,rfl,hb,hr⟩
 ·simp at hi
 ·have hg:=ZWa hr hi;have hlt:i<l.length:=(List.getElem?_eq_some_iff.1 hi).1;refine⟨b,off,_,rfl,⟨c,T,fr,hb,?_⟩,hg⟩;rw[A.len hg];have:i*A.n+A.n≤l.length*A.n:=by rw[← Nat.succ_mul];exact Nat.mul_le_mul_right _ hlt
  rw[List.drop_take,List.take_take,List.drop_drop,Nat.min_eq_left (by omega)]
theorem ZSl {α:Type} {A:Rep α} {v:Za} {cs:List Value} {l:List α} (h:(Zo A).rel v cs l):∃ q cap,cs=[.slice q l.length cap]∧l.length≤cap∧cap≤maxLen:=by
 obtain⟨q,cap,e,h1,h2,_⟩:=h;exact⟨q,cap,e,h1,h2⟩
end Go.Eng
namespace Go.Eng
open Go.RowKit
def mkA (b:Option Nat):Option Addr:=match b with
 | some b=>some ⟨b,0,none⟩
 | none=>none
structure Elem (P:Program) (t e:TypeId) (sz bytes:Nat) (z:Value):Prop where
 ty:P.underlying t=some (.slice e)
 info:(P.info? e).map (λi=>(i.zero,i.size,i.bytes))=some (some z,sz,bytes)
 cells:z.cells.size=sz
 pos:0<sz
section
variable {P:Program} {K:Nat} {w0:Base} {v0:Za} {σ:List (Nat×Value)} {ℓ:List Loc} {v:Za} {a:Act} {w:World}
variable {d:Option Nat} {ty:TypeId} {pos:String} {aft:Array Edge} {g:Option (Nat×Bool)}
theorem ZIf {b:Nat} {e':Loc} (he:e'.blk=some b):∀ {ℓ:List Loc} (i:Nat),(ℓ.filterMap Loc.blk).Nodup→(∀ x ∈ ℓ,x.blk≠some b)→((ℓ.set i e').filterMap Loc.blk).Nodup
 | [],_,h,_=>h
 | x :: l,0,h,hn=>by
  rw[List.set_cons_zero,List.filterMap_cons_some he]
  refine List.nodup_cons.2 ⟨λhm=>?_,?_⟩
  ·obtain⟨y,hy,hyb⟩:=List.mem_filterMap.1 hm
   exact hn y (List.mem_cons_of_mem _ hy) hyb
  ·cases hx:x.blk with
   | none=>rw[List.filterMap_cons_none hx]at h;exact h
   | some bx=>rw[List.filterMap_cons_some hx]at h;exact (List.nodup_cons.1 h).2
 | x :: l,i+1,h,hn=>by
  rw[List.set_cons_succ]
  cases hx:x.blk with
  | none =>
   rw[List.filterMap_cons_none hx]at h ⊢
   exact ZIf he i h λy hy=>hn y (List.mem_cons_of_mem _ hy)
  | some bx =>
   rw[List.filterMap_cons_some hx]at h ⊢
   refine List.nodup_cons.2 ⟨λhm=>?_,ZIf he i (List.nodup_cons.1 h).2 λy hy=>hn y (List.mem_cons_of_mem _ hy)⟩
   obtain⟨y,hy,hyb⟩:=List.mem_filterMap.1 hm
   rcases List.mem_or_eq_of_mem_set hy with hy | rfl
   ·exact (List.nodup_cons.1 h).1 (List.mem_filterMap.2 ⟨y,hy,hyb⟩)
   ·rw[he]at hyb;cases hyb
    exact hn x (List.mem_cons_self ..) hx
theorem St.setNew (h:St K w0 v0 σ ℓ v a w) (i:Nat) (o:Obj) {e:Loc} (hb:e.blk=some w.heap.size) (hh:e.holds (w.alloc o)):St K w0 v0 σ (ℓ.set i e) v a (w.alloc o):=by
 have h':=h.step (Ext.alloc w o) (VStep.ext h.vin (Ext.alloc w o));refine⟨h'.size,h'.dfr,h'.fr,h'.ext,h'.vst,λx hx=>?_,ZIf hb i h.nd λx hx e=>?_⟩
 ·rcases List.mem_or_eq_of_mem_set hx with hx | rfl
  ·exact h'.loc x hx
  ·refine⟨hh,λb e'=>?_⟩;rw[hb]at e';cases e';exact⟨.inl h.ext.size,h.vin.none (Nat.le_refl _)⟩
 ·obtain⟨_,hg⟩:=Loc.blk_get (h.loc x hx).1 e;have:=ZHb hg;omega
theorem St.setSame (h:St K w0 v0 σ ℓ v a w) {i:Nat} {e e':Loc} (hi:ℓ[i]? = some e) (hb:e'.blk=e.blk) (hh:e'.holds w):St K w0 v0 σ (ℓ.set i e') v a w:=by
 refine⟨h.size,h.dfr,h.fr,h.ext,h.vst,λx hx=>?_,by rw[Z1g hi hb];exact h.nd⟩;rcases List.mem_or_eq_of_mem_set hx with hx | rfl
 ·exact h.loc x hx
 ·exact⟨hh,λb e2=>(h.loc e (mG hi)).2 b (by rw[← hb];exact e2)⟩
theorem ZQh {t e ty:TypeId} {sz bytes:Nat} {z:Value} (E:Elem P t e sz bytes z) (hS:St K w0 v0 σ ℓ v a w) {i n cap:Nat} {b:Option Nat} {cs:List Value} (hi:ℓ[i]? = some (.own b e sz n cap cs))
  {ad:Addr} {m c:Nat} {news:List Value} (hl:news.length=m*sz) (hnews:∀ j u,news[j]? = some u→w.cell? (ad.add j)=some u) (hp:news.all plain=true)
  {n':Nat} (hn':n'=n+m) (hbytes:n'*bytes≤140737488355328) (hpos:0<bytes) :
  ∃ b' cap' w',(Builtin.append_ #[t,t] ty #[.slice (mkA b) n cap,.slice (some ad) m c]).run P w = .ok (.slice (mkA b') n' cap') w'∧St K w0 v0 σ (ℓ.set i (.own b' e sz n' cap' (cs++news))) v a w':=by
 subst hn';have h63:n+m≤maxLen:=by
  have h1:(n+m)*1≤(n+m)*bytes:=Nat.mul_le_mul_left _ hpos;unfold maxLen;omega
 obtain⟨inf,hinf,hz,hs,hby⟩:=info_parts E.info;subst hs;subst hby;have h1:=Z6h hp;have hcm:∀ (w:World) (old:Nat),grownCap w (n+m) old e≤maxLen:=λw old=>grownCap_le_maxLen w (n+m) old e h63;have h63':n+m≤9223372036854775807:=by simp only[maxLen]at h63;omega
 have hsize:∀ k,(Builtin.zeroCells z.cells k).size=k*inf.size:=λk=>by rw[size_zeroCells,E.cells]
 have hD:=hS.drew;have hloc:=(hS.loc _ (mG hi)).1;have fresh:∀ old,old<n+m→cs.length=n*inf.size →
   St K w0 v0 σ (ℓ.set i (.own (some w.heap.size) e inf.size (n+m) (grownCap w (n+m) old e) (cs++news))) v a (w.drew.alloc (.cells (cs.toArray++news.toArray++Builtin.zeroCells z.cells (grownCap w (n+m) old e-(n+m))) e)):=by
  intro old ho hcl;have hge:=grownCap_ge w (n+m) old e;have hlen:(cs++news).length=(n+m)*inf.size:=by rw[lA,hcl,hl,Nat.add_mul]
  refine hD.setNew i _ rfl ⟨hlen,_,heap_alloc_new w.drew _,hge,hcm w old,?_,?_⟩
  ·simp only[Array.size_append,List.size_toArray,hsize,hcl,hl,← Nat.add_mul];congr 1;omega
  ·simp only[Array.toList_append,aA];rw[← aA,← hlen];exact List.take_left
 cases b with
 | none =>
  obtain⟨rfl,rfl,rfl⟩:=hloc;by_cases hm:m=0
  ·subst hm;have hn:news=[]:=List.eq_nil_of_length_eq_zero (by simpa using hl);subst hn;refine⟨none,0,w,?_,hS.setSame hi rfl ⟨rfl,rfl,rfl⟩⟩;simp[Builtin.append_,run_underlying E.ty,sizeOf,typeInfo,hinf,Builtin.lenOf,Builtin.firstCells,loadCells,loadCellsFrom,mkA]
  ·have hr:=run_append_nil (P:=P) w t ty e inf z E.ty hinf hz ad m c news hl hnews (by omega) (by omega) (by have hb:=hbytes;simp only[Nat.zero_add]at hb;omega);have:=fresh 0 (by omega) (by simp);simp only[Nat.zero_add,List.nil_append]at this ⊢;exact⟨some w.heap.size,_,_,hr,by simpa using this⟩
 | some b =>
  obtain⟨hcl,cur,hg,hnc,hcx,hcs,htake⟩:=hloc;by_cases hroom:n+m≤cap
  ·have hfit:n*inf.size+news.length≤cur.size:=by rw[hl,hcs,← Nat.add_mul];exact Nat.mul_le_mul_right _ hroom
   have hr:=run_append_room (P:=P) w t ty e inf E.ty hinf b n cap cur hg ad m c news hl hnews h1 hroom hfit;refine⟨some b,cap,_,hr,hS.setRow hi rfl rfl ⟨?_,_,setRow_heap w b cur _ e _ hg,hroom,hcx,?_,?_⟩⟩
   ·rw[lA,hcl,hl,Nat.add_mul]
   ·simp;omega
   ·have hlen:(cs++news).length=(n+m)*inf.size:=by rw[lA,hcl,hl,Nat.add_mul]
    show List.take _ (_++_++_)=_;rw[htake,← hlen];exact List.take_left
  ·have holds:∀ j u,cs[j]? = some u→w.cell? ((⟨b,0,none⟩:Addr).add j)=some u:=by
    intro j u hu;rw[ZMa,Nat.zero_add];rw[← htake,List.getElem?_take]at hu;split at hu
    ·simp only[World.cell?,hg,Option.isSome_none,Bool.false_eq_true,if_false];simpa using hu
    ·cases hu
   have hr:=run_append_grow (P:=P) w t ty e inf z E.ty hinf hz ⟨b,0,none⟩ n cap cs hcl holds ad m c news hl hnews (by omega) (by omega) (growslice_fits (by omega) hbytes);exact⟨some w.heap.size,_,_,hr,fresh cap (by omega) hcl⟩
theorem Ztc (hS:St K w0 v0 σ ℓ v a w) {t:TypeId} {x y:Operand} {p q r:Value} {w':World} (e:ev σ x=some p) (e':ev σ y=some q) (h:(Builtin.append_ #[t,t] ty #[p,q]).run P w = .ok r w') :
  (execOp a.eval ⟨d,.call ⟨.builtin .append,#[x,y],#[t,t]⟩,ty,pos,aft,g⟩).run P w = .ok (.value r) w':=by
 simp[execOp,resolve,invoke,builtin,hS.eval e,hS.eval e',h]
theorem own_at (hS:St K w0 v0 σ ℓ v a w) {j n cap b sz:Nat} {T:TypeId} {cs:List Value} (hj:ℓ[j]? = some (.own (some b) T sz n cap cs)) (off k:Nat) (h:off+k≤cs.length):WAt w b off ((cs.drop off).take k):=by
 obtain⟨hcl,cur,hg,hnc,hcx,hcs,htake⟩:=(hS.loc _ (mG hj)).1;have hk:((cs.drop off).take k).length=k:=by simp;omega
 refine⟨cur,T,_,hg,?_⟩;rw[hk];have h2:off+k≤n*sz:=by omega
 rw[← htake,List.drop_take,List.take_take,Nat.min_eq_left (by omega)]
theorem ZZd (hS:St K w0 v0 σ ℓ v a w) {j n cap sz:Nat} {b:Option Nat} {T:TypeId} {cs:List Value} (hj:ℓ[j]? = some (.own b T sz n cap cs)) (h:0<n):∃ b',b=some b':=by
 cases b with
 | none=>obtain⟨h1,_⟩:=(hS.loc _ (mG hj)).1;omega
 | some b'=>exact⟨b',rfl⟩
theorem Zal (zc:Array Value) (n cap:Nat) (h:n≤cap):(madeCells zc (cap*zc.size)).toList.take (n*zc.size)=(List.replicate n zc.toList).flatten:=by
 have key:∀ m,((List.range (m*zc.size)).map λi=>zc[i%zc.size]!)=(List.replicate m zc.toList).flatten:=by
  intro m
  induction m with
  | zero=>simp
  | succ m ih =>
   rw[Nat.succ_mul,List.range_add,List.map_append,ih,List.replicate_succ',List.flatten_append];congr 1;simp only[List.map_map,List.flatten_cons,List.flatten_nil,List.append_nil];apply List.ext_getElem
   ·simp
   ·intro i h1 h2;have hi:i<zc.size:=by simpa using h1
    simp[Nat.mod_eq_of_lt hi,hi]
 have h1:(madeCells zc (cap*zc.size)).toList=(List.replicate cap zc.toList).flatten:=by
  unfold madeCells;rw[Array.toList_map,Array.toList_range];exact key cap
 rw[h1];obtain⟨k,rfl⟩:=Nat.le.dest h;rw[← List.replicate_append_replicate,List.flatten_append];have h2:((List.replicate n zc.toList).flatten).length=n*zc.size:=by simp
 rw[← h2];exact List.take_left
theorem st_make {t e:TypeId} {sz bytes:Nat} {z:Value} (E:Elem P t e sz bytes z) (hS:St K w0 v0 σ ℓ v a w) {l c:Int}
  (h0:0≤l) (h1:l≤c) (h2:(bytes:Int)*c≤281474976710656) (h3:c≤9223372036854775807) :
  ∃ b w',(∀ {d:Option Nat} {ty:TypeId} {pos:String} {aft:Array Edge} {g:Option (Nat×Bool)} {x y:Operand} {k k':IntKind},ev σ x=some (.int k l)→ev σ y=some (.int k' c)→(execOp a.eval ⟨d,.makeSlice t x y,ty,pos,aft,g⟩).run P w = .ok (.value (.slice (mkA (some b)) l.toNat c.toNat)) w') ∧
   St K w0 v0 σ (.own (some b) e sz l.toNat c.toNat (List.replicate l.toNat z.cells.toList).flatten :: ℓ) v a w':=by
 obtain⟨inf,hinf,hz,hs,hby⟩:=info_parts E.info;subst hs;subst hby;have hx:∀ {d:Option Nat} {ty:TypeId} {pos:String} {aft:Array Edge} {g:Option (Nat×Bool)} {x y:Operand} {k k':IntKind},ev σ x=some (.int k l)→ev σ y=some (.int k' c)→(execOp a.eval ⟨d,.makeSlice t x y,ty,pos,aft,g⟩).run P w = .ok (.value (.slice (mkA (some w.heap.size)) l.toNat c.toNat)) (w.alloc (.cells (madeCells z.cells (c.toNat*inf.size)) e)):=by
  intro d ty pos aft g x y k k' ex ey;have hr:=run_make (P:=P) w t e inf z E.ty hinf hz k k' l c h0 h1 h2 h3;simp[execOp,hS.eval ex,hS.eval ey,hr,mkA]
 refine⟨_,_,hx,hS.newLoc _ rfl ⟨?_,_,heap_alloc_new w _,by omega,by unfold maxLen;omega,?_,?_⟩⟩
 ·simp[E.cells]
 ·simp[size_madeCells]
 ·rw[← E.cells];exact Zal z.cells _ _ (by omega)
theorem St.publish (h:St K w0 v0 σ ℓ v a w) {i b:Nat} {e:Loc} {ℓ':List Loc} {o:Obj} (hi:ℓ[i]? = some e) (hb:e.blk=some b) (ho:w.heap[b]? = some o) (hℓ:ℓ'=ℓ.eraseIdx i) :
  ∃ v',v.le v'∧v' b=some o∧St K w0 v0 σ ℓ' v' a w:=by
 subst hℓ;obtain⟨_,hv⟩:=h.loc e (mG hi);obtain⟨hge,hnone⟩:=hv b hb;refine⟨λk=>if k=b then some o else v k,λk x hk=>?_,by simp,h.size,h.dfr,h.fr,h.ext,⟨λk x hk=>?_,λk x hk=>?_,λk hk hn=>?_⟩,λx hx=>?_,?_⟩
 ·have:k≠b:=λe=>by subst e;rw[hnone]at hk;cases hk
  simp[this,hk]
 ·have hk':=h.vst.le k x hk;have:k≠b:=λe=>by subst e;rw[hnone]at hk';cases hk'
  simp[this,hk']
 ·by_cases hkb:k=b
  ·subst hkb;simp at hk;subst hk;exact ho
  ·simp[hkb]at hk;exact h.vin k x hk
 ·have:k≠b:=by
   rintro rfl;rcases hge with h' | h'
   ·omega
   ·exact hn h'
  simp[this,h.vst.old k hk hn]
 ·obtain⟨j,hj⟩:=List.getElem?_of_mem hx;rw[List.getElem?_eraseIdx]at hj;have aux:∀ j',ℓ[j']? = some x→j'≠i→x.holds w∧∀ b',x.blk=some b'→(w0.wd.heap.size≤b'∨b' ∈ w0.lent)∧(if b'=b then some o else v b')=none:=by
   intro j' hj' hne;obtain⟨h1,h2⟩:=h.loc x (mG hj');refine⟨h1,λb' hb'=>?_⟩;have:=Zwf h.nd hi hb j' x hj' hne b' hb';simp[this,h2 b' hb']
  split at hj
  ·exact aux j hj (by omega)
  ·exact aux (j+1) hj (by omega)
 ·exact ((List.eraseIdx_sublist ℓ i).filterMap Loc.blk).nodup h.nd
theorem St.pubSlice {α:Type} {A:Rep α} (h:St K w0 v0 σ ℓ v a w) {i n cap sz:Nat} {b:Option Nat} {T:TypeId} {cs:List Value} {l:List α} {ℓ':List Loc} (hi:ℓ[i]? = some (.own b T sz n cap cs)) (hsz:sz=A.n) (hn:n=l.length)
  (hr:A.rels v cs l) (hℓ:ℓ'=ℓ.eraseIdx i):∃ v',v.le v'∧St K w0 v0 σ ℓ' v' a w∧(Zo A).rel v' [.slice (mkA b) n cap] l:=by
 subst hsz;subst hn
 cases b with
 | none =>
  subst hℓ;obtain⟨h1,rfl,_⟩:=(h.loc _ (mG hi)).1;refine⟨v,Za.le_refl _,h.drop (List.eraseIdx_sublist ℓ i),none,0,rfl,by omega,by unfold maxLen;omega,.inl (List.eq_nil_of_length_eq_zero h1)⟩
 | some b =>
  obtain⟨hcl,cur,hg,hnc,hcx,hcs,htake⟩:=(h.loc _ (mG hi)).1;obtain⟨v',hv,hb,hS⟩:=h.publish hi rfl hg hℓ;refine⟨v',hv,hS,some ⟨b,0,none⟩,cap,rfl,hnc,hcx,.inr ⟨b,0,cur,T,_,rfl,hb,?_⟩⟩;rw[List.drop_zero,htake];exact Zlb hv hr
theorem St.pubBox (h:St K w0 v0 σ ℓ v a w) {i b:Nat} {T:TypeId} {cs:List Value} {ℓ':List Loc} (hi:ℓ[i]? = some (.box b T cs)) (hℓ:ℓ'=ℓ.eraseIdx i):∃ v',v.le v'∧St K w0 v0 σ ℓ' v' a w∧v' b=some (.cells cs.toArray T (0,0)):=by
 obtain⟨v',hv,hb,hS⟩:=h.publish hi rfl (h.loc _ (mG hi)).1 hℓ;exact⟨v',hv,hS,hb⟩
theorem at_box {v:Za} {b:Nat} {T:TypeId} {fr:Nat×Nat} {cs0:List Value} (h:v b=some (.cells cs0.toArray T fr)) (off:Nat) (cs:List Value) (e:(cs0.drop off).take cs.length=cs):At v b off cs:=⟨_,_,_,h,by simpa using e⟩
theorem ZBk (hS:St K w0 v0 σ ℓ v a w) {α:Type} {A:Rep α} {t e:TypeId} {q:Option Addr} {n cap:Nat} {l:List α} {p r:Int} (ht:Zse P t e A.n) (hr:(Zo A).rel v [.slice q n cap] l)
  (h0:0≤p) (h1:p≤r) (h2:r≤l.length) :
  ∃ q' cap',(∀ {d:Option Nat} {ty:TypeId} {pos:String} {aft:Array Edge} {g:Option (Nat×Bool)} {x:Operand} {lo hi:Option Operand},ev σ x=some (.slice q n cap)→((lo=none∧p=0) ∨ ∃ y k,lo=some y∧ev σ y=some (.int k p))→((hi=none∧r=l.length) ∨ ∃ y k,hi=some y∧ev σ y=some (.int k r)) →
   (execOp a.eval ⟨d,.slice t x lo hi none,ty,pos,aft,g⟩).run P w = .ok (.value (.slice q' (r-p).toNat cap')) w)∧(Zo A).rel v [.slice q' (r-p).toNat cap'] ((l.take r.toNat).drop p.toNat):=by
 obtain⟨q',cap',e',hl,hm,hcase⟩:=hr
 cases e'
 have hlen:((l.take r.toNat).drop p.toNat).length=(r-p).toNat:=by simp;omega
 have hcap:r≤cap:=by omega
 refine⟨if cap=p.toNat then q else q.map (·.add (p.toNat*A.n)),cap-p.toNat,?_,?_⟩
 ·intro d ty pos aft g x lo hi ex elo ehi;have e1:(r-p).toNat=r.toNat-p.toNat:=by omega
  rw[e1];rcases elo with ⟨rfl,rfl⟩ | ⟨y,k,rfl,hy⟩ <;> rcases ehi with ⟨rfl,rfl⟩ | ⟨y',k',rfl,hy'⟩
  ·simp[execOp,Instr.sliceAt,Instr.slice,Instr.sliceBounds,hS.eval ex,ht.1,ht.2]
  ·have hc:¬ ((cap:Int)<r):=by omega
   have hb:0≤r∧r≤cap:=by omega
   simp[execOp,Instr.sliceAt,Instr.slice,Instr.sliceBounds,Instr.sliceBound,asIntOf,hS.eval ex,hS.eval hy',ht.1,ht.2,hb]
  ·have hb:0≤p∧p≤l.length:=by omega
   simp[execOp,Instr.sliceAt,Instr.slice,Instr.sliceBounds,Instr.sliceBound,asIntOf,hS.eval ex,hS.eval hy,ht.1,ht.2,hb]
  ·have hb:0≤r∧r≤cap:=by omega
   have hb':0≤p∧p≤(r.toNat:Int):=by omega
   have hb'':p≤max r 0:=by omega
   simp[execOp,Instr.sliceAt,Instr.slice,Instr.sliceBounds,Instr.sliceBound,asIntOf,hS.eval ex,hS.eval hy,hS.eval hy',ht.1,ht.2,hb,hb',hb'']
 ·refine⟨_,_,by rw[hlen],by omega,by omega,?_⟩;rcases hcase with rfl | ⟨b,off,c,T,fr,rfl,hb,hrel⟩
  ·left;simp
  ·by_cases hz:(l.take r.toNat).drop p.toNat=[]
   ·exact .inl hz
   ·right;have hpos:p.toNat<r.toNat:=by
     rcases Nat.lt_or_ge p.toNat r.toNat with h | h
     ·exact h
     ·exact absurd (List.drop_of_length_le (by simp;omega)) hz
    have hne:¬ cap=p.toNat:=by omega
    rw[iN hne];refine⟨b,off+p.toNat*A.n,c,T,fr,by simp[ZMa],hb,?_⟩;have:=ZUe p.toNat (ZLf r.toNat hrel);rw[hlen];have e1:(List.drop (p.toNat*A.n) (List.take (r.toNat*A.n) (List.take (l.length*A.n) (List.drop off c.toList))))=List.take ((r-p).toNat*A.n) (List.drop (off+p.toNat*A.n) c.toList):=by
     have hle:r.toNat*A.n≤l.length*A.n:=Nat.mul_le_mul_right _ (by omega);rw[List.take_take,Nat.min_eq_left hle,List.drop_take,List.drop_drop];congr 1;have:(r-p).toNat=r.toNat-p.toNat:=by omega
     rw[this,Nat.sub_mul]
    rw[e1]at this;exact this
end
end Go.Eng
namespace Go.Eng
open Go.RowKit
def idx {α:Type} (l:List α) (i:Int):Option α:=if 0≤i then l[i.toNat]? else none
theorem ZPa {α:Type} {l:List α} {i:Int} {x:α} (h:idx l i=some x):0≤i∧l[i.toNat]? = some x∧i<l.length∧i.toNat<l.length:=by
 unfold idx at h;split at h
 ·have:=(List.getElem?_eq_some_iff.1 h).1;exact⟨‹_›,h,by omega,this⟩
 ·cases h
theorem Zwa {α:Type} {l:List α} {i:Nat} {x:α} (h:l[i]? = some x):idx l (i:Int)=some x:=by simp[idx,h]
section
variable {P:Program} {K:Nat} {w0:Base} {v0:Za} {σ:List (Nat×Value)} {ℓ:List Loc} {v:Za} {a:Act} {w:World}
variable {d:Option Nat} {ty:TypeId} {pos:String} {aft:Array Edge} {g:Option (Nat×Bool)}
variable {ops:Array Oper} {Q:Exit→Act→World→Prop} {rest:List Oper}
theorem At.sub {v:Za} {b off:Nat} {cs:List Value} (h:At v b off cs) (k:Nat) (cs':List Value) (e:(cs.drop k).take cs'.length=cs') (hk:k+cs'.length≤cs.length):At v b (off+k) cs':=by
 obtain⟨c,T,fr,h1,h2⟩:=h;refine⟨c,T,fr,h1,?_⟩;rw[← List.drop_drop];rw[← h2,List.drop_take,List.take_take,Nat.min_eq_left (by omega)]at e;exact e
theorem Z5b (hS:St K w0 v0 σ ℓ v a w) {j n cap b sz:Nat} {T:TypeId} {cs:List Value} (hj:ℓ[j]? = some (.own (some b) T sz n cap cs)) {i:Nat} {c:List Value} (e:(cs.drop (i*sz)).take sz=c) (hi:i<n)
  (k:Nat) (c':List Value) (e':(c.drop k).take c'.length=c') (hk:k+c'.length≤sz):WAt w b (0+i*sz+k) c':=by
 obtain⟨hcl,_⟩:=(hS.loc _ (mG hj)).1;have h1:i*sz+sz≤n*sz:=by rw[← Nat.succ_mul];exact Nat.mul_le_mul_right _ hi
 have:=own_at hS hj (i*sz+k) c'.length (by omega);rw[Nat.zero_add];have e2:(cs.drop (i*sz+k)).take c'.length=c':=by
  rw[← e,List.drop_take,List.take_take,Nat.min_eq_left (by omega),List.drop_drop]at e';exact e'
 rw[e2]at this;exact this
theorem Znm (hS:St K w0 v0 σ ℓ v a w) {x:Operand} {f:FuncId} {xs:Array Operand} {ats:Array TypeId} (vals:List Value) (hf:ZM P f) (e:ev σ x=some (.func (.func f) #[] #[]))
  (h:xs.toList.map (ev σ)=vals.map some):(execOp a.eval ⟨d,.call ⟨.value x,xs,ats⟩,ty,pos,aft,g⟩).run P w = .ok (.enter f vals.toArray) w:=by
 have:=ZKi (d:=d) (ty:=ty) (pos:=pos) (aft:=aft) (g:=g) (ats:=ats) hS hf e h
 simpa using this
theorem Z7i (hS:St K w0 v0 σ ℓ v a w) {fn:Fn} {xs:Array Operand} (vals:List Value) (h:xs.toList.map (ev σ)=vals.map some) :
  (execOp a.eval ⟨d,.makeFunc fn #[] xs,ty,pos,aft,g⟩).run P w = .ok (.value (.func fn #[] vals.toArray)) w:=by
 have hx:xs.map a.eval=vals.toArray:=by
  apply Array.ext';rw[Array.toList_map];generalize xs.toList=l at h
  induction l generalizing vals with
  | nil=>cases vals <;> simp_all
  | cons y l ih =>
   cases vals with
   | nil=>simp at h
   | cons u vals=>simp at h;simp[hS.eval h.1,ih _ h.2]
 simp[execOp,Instr.makeFunc,hx]
theorem ZIg (hS:St K w0 v0 σ ℓ v a w) {s t:TypeId} {x:Operand} {y z:Value} (e:ev σ x=some y) (h:∀ w,(convert s t y).run P w = .ok z w) :
  (execOp a.eval ⟨d,.convert s t x,ty,pos,aft,g⟩).run P w = .ok (.value z) w:=by
 simp[execOp,hS.eval e,h]
theorem Z9i (hS:St K w0 v0 σ ℓ v a w) {t:TypeId} {ps:Array (Nat×Operand)} (vals:List (Nat×Value)) {z:Value} (h:ps.toList.map (λp=>(ev σ p.2).map λy=>(p.1,y))=vals.map some)
  (hz:(Instr.build t vals.toArray).run P w = .ok z w):(execOp a.eval ⟨d,.build t ps,ty,pos,aft,g⟩).run P w = .ok (.value z) w:=by
 have hx:ps.map (λ(i,x)=>(i,a.eval x))=vals.toArray:=by
  apply Array.ext';rw[Array.toList_map];generalize ps.toList=l at h;clear hz
  induction l generalizing vals with
  | nil=>cases vals <;> simp_all
  | cons y l ih =>
   cases vals with
   | nil=>simp at h
   | cons u vals =>
    simp at h;obtain⟨⟨y',h1,h2⟩,h3⟩:=h;obtain⟨yi,yo⟩:=y;simp only at h1 h2;simp[hS.eval h1,ih _ h3,← h2]
 simp[execOp,hx,hz]
theorem ZJf {t e:TypeId} {sz n:Nat} {vals:List (Nat×Value)} {cs:List Value} (hS:St K w0 v0 σ ℓ v a w) (hn:cs.length=n*sz) (hmax:n≤maxLen) 
  (hz:∀ w,(Instr.buildSlice t n vals.toArray).run P w = .ok (.slice (some ⟨w.heap.size,0,none⟩) n n) (w.alloc (.cells cs.toArray e))) :
  ∃ b w',(∀ {d:Option Nat} {ty:TypeId} {pos:String} {aft:Array Edge} {g:Option (Nat×Bool)} {ps:Array (Nat×Operand)},ps.toList.map (λp=>(ev σ p.2).map λy=>(p.1,y))=vals.map some→(execOp a.eval ⟨d,.buildSlice t n ps,ty,pos,aft,g⟩).run P w = .ok (.value (.slice (mkA (some b)) n n)) w')∧St K w0 v0 σ (.own (some b) e sz n n cs :: ℓ) v a w':=by
 have hx:∀ {ps:Array (Nat×Operand)},ps.toList.map (λp=>(ev σ p.2).map λy=>(p.1,y))=vals.map some→ps.map (λ(i,x)=>(i,a.eval x))=vals.toArray:=by
  intro ps h;apply Array.ext';rw[Array.toList_map];generalize ps.toList=l at h;clear hz
  induction l generalizing vals with
  | nil=>cases vals <;> simp_all
  | cons y l ih =>
   cases vals with
   | nil=>simp at h
   | cons u vals =>
    simp at h;obtain⟨⟨y',h1,h2⟩,h3⟩:=h;obtain⟨yi,yo⟩:=y;simp only at h1 h2;simp[hS.eval h1,ih h3,← h2]
 refine⟨_,_,λh=>by simp[execOp,hx h,hz w,mkA],hS.newLoc (.cells cs.toArray e) rfl ⟨hn,cs.toArray,heap_alloc_new w _,Nat.le_refl _,hmax,by simpa using hn,?_⟩⟩;rw[← hn];simp
theorem Zqe {o:Oper} {d:Nat} {x:Value} {w':World} {ℓ':List Loc} {v':Za} (hw:Region.wanted o (yielded ops a.tmps)=true) (hd:o.dst=some d) (hK:d<K) (hrun:(execOp a.eval o).run P w = .ok (.value x) w') (hS:St K w0 v0 σ ℓ' v' a w')
  (h:∀ a,St K w0 v0 ((d,x) :: σ) ℓ' v' a w'→wpList P ops Q rest a w'):wpList P ops Q (o :: rest) a w :=
 ZVd hw (Zrd hrun (by rw[hd];exact h _ (hS.put x hK)))
def ZXa:Nat→List Value→List (Nat×Value)
 | _,[]=>[]
 | k,x :: l=>(k,x) :: ZXa (k+1) l
theorem Zlj:∀ (l:List Value) (k t:Nat) (x:Value),look (ZXa k l) t=some x→k≤t∧l[t-k]? = some x
 | [],k,t,x,h=>by cases h
 | y :: l,k,t,x,h=>by
  by_cases hk:k=t
  ·subst hk;rw[show ZXa k (y :: l)=(k,y) :: ZXa (k+1) l from rfl,ZCc rfl]at h;cases h;simp
  ·rw[show ZXa k (y :: l)=(k,y) :: ZXa (k+1) l from rfl,ZEd hk]at h
   obtain⟨h1,h2⟩:=Zlj l (k+1) t x h
   refine⟨by omega,?_⟩
   have:t-k=t-(k+1)+1:=by omega
   rw[this];simpa using h2
theorem St.enter {w:World} {v:Za} (hv:VIn v w) (args:List Value) (hK:args.length≤K) :
  St K w v (ZXa 0 args) [] v { tmps:=args.toArray++Array.replicate (K-args.toArray.size) undef,defers:=[] } w :=
 ⟨by simp;omega,rfl,λt x h=>by
  obtain⟨_,h2⟩:=Zlj args 0 t x h
  have hlt:t<args.length:=(List.getElem?_eq_some_iff.1 h2).1
  have h3:args[t]=x:=(List.getElem?_eq_some_iff.1 h2).2
  simp[Array.getElem?_append,hlt,h3],ExtB.refl (w:Base),⟨Za.le_refl _,hv,λ_ _ _=>rfl⟩,λe he=>(by cases he),by simp⟩
theorem ret_of {f:FuncId} {fn:Func} {c:Code} {args:List Value} {w:World} {v:Za} {R:Value→Za→Prop} (hv:VIn v w) (hf:P.funcs[f]? = some fn) (hb:fn.body=some c) (hK:fn.ntmps=K) (hl:args.length≤K)
  (h:∀ a,St K w v (ZXa 0 args) [] v a w→c.wp P (bodyPost P fn λe w'=>∃ r v',e = .returned r∧Ext w w'∧VStep w v w' v'∧R r v') a w):Ret P f args.toArray w v R :=
 calls_of_wp hf hb (by subst hK;exact h _ (St.enter hv args hl))
def Res (P:Program) (tmps:Array Value) (w:World) (r:ResultVar) (y:Value):Prop:=(match r with
 | .tmp t=>pure (tmps.getD t undef)
 | .cell x t=>do loadVar t (← asAddr (tmps.getD x undef)):Sem Value).run P w = .ok y w
theorem Zid (hS:St K w0 v0 σ ℓ v a w) {t:Nat} {y:Value} (h:look σ t=some y):Res P a.tmps w (.tmp t) y:=by
 have:=hS.fr t y h;unfold Res;simp only[this];rfl
theorem res_agg (hS:St K w0 v0 σ ℓ v a w) {x t:Nat} {b n:Nat} {cs:List Value} (h:look σ x=some (.pointer (some ⟨b,0,none⟩))) (ht:Sized P t n true) (hn:cs.length=n) (hc:WAt w b 0 cs):Res P a.tmps w (.cell x t) (.agg cs.toArray):=by
 have:=hS.fr x _ h;unfold Res;simp only[this];simp[asAddr,Zji ht hn hc]
theorem res_one (hS:St K w0 v0 σ ℓ v a w) {x t:Nat} {b n:Nat} {y:Value} (h:look σ x=some (.pointer (some ⟨b,0,none⟩))) (ht:Sized P t n false) (hc:WAt w b 0 [y]):Res P a.tmps w (.cell x t) y:=by
 have:=hS.fr x _ h;unfold Res;simp only[this];simp[asAddr,Zmj ht hc]
def Zhe (tmps:Array Value):ResultVar→Sem Value
 | .tmp t=>pure (tmps.getD t undef)
 | .cell x t=>do loadVar t (← asAddr (tmps.getD x undef))
theorem Z5i (fn:Func) (tmps:Array Value):results fn tmps=(do let vs ← fn.results.mapM (Zhe tmps);pure (if h:vs.size=1 then vs[0] else .tuple vs)):=by
 unfold results;have:(λr:ResultVar=>(match r with
   | .tmp t=>pure (tmps.getD t undef)
   | .cell x t=>do loadVar t (← asAddr (tmps.getD x undef)):Sem Value))=Zhe tmps:=by funext r;cases r <;> rfl
 rw[← this];rfl
theorem ZKj {tmps:Array Value} {r:ResultVar} {y:Value} (h:Res P tmps w r y):(Zhe tmps r).run P w = .ok y w:=by cases r <;> exact h
theorem Zge {fn:Func} {tmps:Array Value} {r:ResultVar} {y:Value} (h:fn.results = #[r]) (h1:Res P tmps w r y):(results fn tmps).run P w = .ok y w:=by
 have h1:=ZKj h1;rw[Z5i,h];simp[h1]
theorem go_on {σ ρ:Type} {body:σ→Option (σ ⊕ ρ)} {n:Nat} {s:σ} {r:ρ} (h:(∃ s',(Sum.inl s:σ ⊕ ρ) = .inl s'∧Zl body n s'=some r)∨(Sum.inl s:σ ⊕ ρ) = .inr r):Zl body n s=some r:=by
 rcases h with ⟨s',e,h⟩ | h
 ·cases e;exact h
 ·cases h
theorem go_out {σ ρ:Type} {body:σ→Option (σ ⊕ ρ)} {n:Nat} {r0 r:ρ} (h:(∃ s',(Sum.inr r0:σ ⊕ ρ) = .inl s'∧Zl body n s'=some r)∨(Sum.inr r0:σ ⊕ ρ) = .inr r):r0=r:=by
 rcases h with ⟨s',e,h⟩ | h
 ·cases e
 ·cases h;rfl
theorem St.bool (hS:St K w0 v0 σ ℓ v a w) {t:Nat} {b c:Bool} (h:look σ t=some (.bool b)) (e:b=c):St K w0 v0 ((t,.bool c) :: σ) ℓ v a w:=hS.learn (by rw[hS.fr t _ h,e])
theorem ZWe {α:Type} {A:Rep α} {v:Za} {cs:List Value} {l:List α} (h:(Zo A).rel v cs l):inR .i64 (l.length:Int):=by
 obtain⟨q,cap,_,h1,h2⟩:=ZSl h;unfold maxLen at h2;rw[Z2a];omega
theorem ZFg (hS:St K w0 v0 σ ℓ v a w) {j n cap sz:Nat} {b:Option Nat} {T:TypeId} {cs:List Value} (hj:ℓ[j]? = some (.own b T sz n cap cs)):inR .i64 (n:Int):=by
 have:=(hS.loc _ (mG hj)).1
 cases b with
 | none=>obtain⟨h,_⟩:=this;subst h;decide
 | some b=>obtain⟨_,c,_,h1,h2,_⟩:=this;unfold maxLen at h2;rw[Z2a];omega
theorem Z9h (hS:St K w0 v0 σ ℓ v a w) {op:BinOp} {t t':TypeId} {x y:Operand} {p q:Bool} {z:Value} (e:ev σ x=some (.bool p)) (e':ev σ y=some (.bool q))
  (h:∀ w,(binOp op t (.bool p) (.bool q)).run P w = .ok z w):(execOp a.eval ⟨d,.binOp op t x y t',ty,pos,aft,g⟩).run P w = .ok (.value z) w:=by
 cases op <;> simp[execOp,hS.eval e,hS.eval e',eqGuard,h]
theorem run_not (hS:St K w0 v0 σ ℓ v a w) {t:TypeId} {x:Operand} {p:Bool} (e:ev σ x=some (.bool p)):(execOp a.eval ⟨d,.unOp .not t x,ty,pos,aft,g⟩).run P w = .ok (.value (.bool !p)) w:=by
 simp[execOp,hS.eval e,Op.unary]
theorem run_neg (hS:St K w0 v0 σ ℓ v a w) {t:TypeId} {x:Operand} {k:IntKind} {p:Int} (e:ev σ x=some (.int k p)):(execOp a.eval ⟨d,.unOp .neg t x,ty,pos,aft,g⟩).run P w = .ok (.value (.int k (k.wrap (-p)))) w:=by
 simp[execOp,hS.eval e,Op.unary,Op.intArith]
end
end Go.Eng
namespace Go.Eng
open Go.RowKit
section
variable {P:Program} {K:Nat} {w0:Base} {v0:Za} {σ:List (Nat×Value)} {ℓ:List Loc} {v:Za} {a:Act} {w:World}
variable {ops:Array Oper} {Q:Exit→Act→World→Prop} {rest:List Oper}
theorem ZKg {N:Act→World→Prop} (h:N a w):Exit.then N Q .normal a w:=h
theorem ZPj {N:Act→World→Prop} (h:Q .ret a w):Exit.then N Q .ret a w:=h
theorem ZJi (hS:St K w0 v0 σ ℓ v a w) {c:Operand} {x y:Code} {b:Bool} (e:ev σ c=some (.bool b)) (hb:b=true) (h:x.wp P Q a w):(Code.cond c x y).wp P Q a w :=
 wp_cond_true (by rw[hS.eval e,hb]) h
theorem Zfi (hS:St K w0 v0 σ ℓ v a w) {c:Operand} {x y:Code} {b:Bool} (e:ev σ c=some (.bool b)) (hb:b=false) (h:y.wp P Q a w):(Code.cond c x y).wp P Q a w :=
 wp_cond_false (by rw[hS.eval e,hb]) h
theorem ZJk {c:Code} {τ ρt:Type} {body:τ→Option (τ ⊕ ρt)} {n:Nat} {s0:τ} {ρ:ρt} (hl:Zl body n s0=some ρ) (I:τ→Act→World→Prop) (h0:I s0 a w)
  (round:∀ s a w st,I s a w→body s=some st→∀ N:Act→World→Prop,(∀ s',st = .inl s'→∀ a w,I s' a w→N a w)→(∀ r,st = .inr r→r=ρ)→c.wp P (Exit.then N Q) a w):(Code.loop c).wp P Q a w:=by
 refine wp_loop_fuel (λn a w=>∃ s,Zl body n s=some ρ∧I s a w) n ⟨s0,hl,h0⟩ (λa w ⟨s,h,_⟩=>ZOk h) ?_;rintro n a w ⟨s,h,hI⟩ N hN;obtain⟨st,hst,hcase⟩:=ZVk h;refine round s a w st hI hst N (λs' e a w hI'=>hN a w ⟨s',?_,hI'⟩) (λr e=>?_)
 ·subst e;exact go_on hcase
 ·subst e;exact go_out hcase
theorem own_fit (hS:St K w0 v0 σ ℓ v a w) {j n cap sz:Nat} {b:Option Nat} {T:TypeId} {cs:List Value} (hj:ℓ[j]? = some (.own b T sz n cap cs)) {i:Nat} (h:i<n):0+i*sz+sz≤cs.length:=by
 have h1:i*sz+sz≤n*sz:=by rw[← Nat.succ_mul];exact Nat.mul_le_mul_right _ h
 have:=(hS.loc _ (mG hj)).1
 cases b with
 | none=>obtain⟨h0,_⟩:=this;omega
 | some b=>obtain⟨h0,_⟩:=this;omega
def mk (bytes:Nat) (l c:Int):Option Unit:=if 0≤l∧l≤c∧(bytes:Int)*c≤281474976710656∧c≤9223372036854775807 then some () else none
theorem mk_some {bytes:Nat} {l c:Int} {u:Unit} (h:mk bytes l c=some u):0≤l∧l≤c∧(bytes:Int)*c≤281474976710656∧c≤9223372036854775807:=by
 unfold mk at h;split at h
 ·assumption
 ·cases h
def Zfa {α:Type} (bytes:Nat) (l:List α):Option Unit:=if l.length*bytes≤140737488355328 then some () else none
theorem Zbd {α:Type} {bytes:Nat} {l:List α} {u:Unit} (h:Zfa bytes l=some u):l.length*bytes≤140737488355328:=by
 unfold Zfa at h;split at h
 ·assumption
 ·cases h
def ZKa {α:Type} (l:List α) (lo hi:Int):Option (List α):=if 0≤lo∧lo≤hi∧hi≤l.length then some ((l.take hi.toNat).drop lo.toNat) else none
theorem Zdg {α:Type} {l y:List α} {lo hi:Int} (h:ZKa l lo hi=some y):0≤lo∧lo≤hi∧hi≤l.length∧y=(l.take hi.toNat).drop lo.toNat∧y.length=(hi-lo).toNat:=by
 unfold ZKa at h;split at h
 ·rename_i hc;cases h;refine⟨hc.1,hc.2.1,hc.2.2,rfl,?_⟩;simp;omega
 ·cases h
theorem Zbm {k:IntKind} {p q z:Int} (_:inR k p) (h:shlI k p q=some z):inR k z:=by
 unfold shlI at h;split at h
 ·cases h
 ·cases h;exact Zub _ _
theorem ZWl {k:IntKind} {p q z:Int} (hp:inR k p) (h:shrI k p q=some z):inR k z:=by
 unfold shrI at h;split at h
 ·cases h
 ·cases h
  generalize hm:(min q.toNat k.bits)=m;have h2:(0:Int)<2^m:=Int.pow_pos (by decide);have h0:k.min≤0∧0≤k.max:=by cases k <;> decide
  rw[Int.fdiv_eq_ediv_of_nonneg _ (Int.le_of_lt h2)];generalize hc:(2:Int)^m=c at h2;have d1:=Int.mul_ediv_add_emod p c;have d2:=Int.emod_nonneg p (show c≠0 by omega);have d3:=Int.emod_lt_of_pos p h2;generalize p / c=q at *;have e1:q≤max p 0:=by
   rcases Int.lt_or_le 0 q with h | h
   ·have:1*q≤c*q:=Int.mul_le_mul_of_nonneg_right (by omega) (by omega);omega
   ·omega
  have e2:min p 0≤q:=by
   rcases Int.lt_or_le q 0 with h | h
   ·have:c*(q+1)≤1*(q+1):=by
     have:=Int.mul_le_mul_of_nonneg_right (c:=-(q+1)) (show (1:Int)≤c by omega) (by omega);rw[Int.mul_neg,Int.mul_neg]at this;omega
    rw[Int.mul_add]at this;omega
   ·omega
  unfold inR at *;omega
theorem ZTb {k:IntKind} {p q:Int} (h:inR k p) (h':inR k q):inR k (max p q):=by unfold inR at *;omega
theorem min_inR {k:IntKind} {p q:Int} (h:inR k p) (h':inR k q):inR k (min p q):=by unfold inR at *;omega
theorem Zjd {α:Type} {A:Rep α} {v:Za}:A.rels v [] []:=rfl
end
end Go.Eng
namespace Go.Eng
open Go.RowKit
variable {P:Program} {K:Nat} {w0:Base} {v0:Za} {σ:List (Nat×Value)} {ℓ:List Loc} {v:Za} {a:Act} {w:World}
variable {d:Option Nat} {ty:TypeId} {pos:String} {aft:Array Edge} {g:Option (Nat×Bool)}
theorem ZXl (hS:St K w0 v0 σ ℓ v a w) {x:Operand} {f:FuncId} {xs:Array Operand} {ats:Array TypeId} {y:Value} (vals:List Value) (hf:∀ w,(callFunc f vals.toArray).run P w = .ok (.value y) w) (e:ev σ x=some (.func (.func f) #[] #[]))
  (h:xs.toList.map (ev σ)=vals.map some):(execOp a.eval ⟨d,.call ⟨.value x,xs,ats⟩,ty,pos,aft,g⟩).run P w = .ok (.value y) w:=by
 have hx:xs.map a.eval=vals.toArray:=by
  apply Array.ext';rw[Array.toList_map];generalize xs.toList=l at h;clear hf
  induction l generalizing vals with
  | nil=>cases vals <;> simp_all
  | cons y l ih =>
   cases vals with
   | nil=>simp at h
   | cons u vals =>
    simp at h;simp[hS.eval h.1,ih vals h.2]
 simp[execOp,resolve,Deferred.ofValue,invoke,hx,hS.eval e,hf w]
def ZSe (P : Program) (f : FuncId) (e : Array Value → Sem Value) : Prop := ∃ fn, P.funcs[f]? = some fn ∧ (fn.name == "runtime.NumGoroutine") = false ∧ fn.body.isNone = true ∧ Extern.findNext fn = none ∧ Extern.find fn = some e
theorem ZSe.run {f:FuncId} {e:Array Value→Sem Value} (h:ZSe P f e) (args:Array Value) (w:World):(callFunc f args).run P w=((e args).run P w).andThen λv w'=>.ok (.value v) w':=by
 obtain⟨fn,h1,h2,h3,h4,h5⟩:=h;exact run_callFunc_extern h1 h2 h3 h4 h5 args w
end Go.Eng
namespace Go.Eng
open Go.RowKit
variable {P:Program} {K:Nat} {w0:Base} {v0:Za} {σ:List (Nat×Value)} {ℓ:List Loc} {v:Za} {a:Act} {w:World}
variable {d:Option Nat} {ty:TypeId} {pos:String} {aft:Array Edge} {g:Option (Nat×Bool)}
theorem Zri {α:Type} {A:Rep α} {v:Za} {cs c:List Value} {l:List α} {i sz m:Nat} {x:α} (h:A.rels v cs l) (hi:i<l.length) (hx:A.rel v c x) (hsz:sz=A.n) (hm:m=A.n) :
  A.rels v (cs.take (0+i*sz)++c++cs.drop (0+i*sz+m)) (l.set i x):=by
 subst hsz;subst hm;have:=Zgm h hi hx;rw[A.len hx]at this;rw[Nat.zero_add];exact this
end Go.Eng
namespace Go.Eng
open Go.RowKit
variable {P:Program} {K:Nat} {w0:Base} {v0:Za} {σ:List (Nat×Value)} {ℓ:List Loc} {v:Za} {a:Act} {w:World}
variable {d:Option Nat} {ty:TypeId} {pos:String} {aft:Array Edge} {g:Option (Nat×Bool)}
theorem Zxb (l:List UInt8):(Zg l).size=l.length:=by simp[Zg,ByteArray.size]
theorem Zph (l:List UInt8):(Zg l).toList=l:=ByteArray.toList_mk l
theorem str_inR {l:List UInt8} (h:l.length≤maxLen):inR .i64 (l.length:Int):=by unfold maxLen at h;rw[Z2a];omega
theorem Zci (x:UInt8):inR .u8 (x.toNat:Int):=by
 have:=x.toNat_lt;exact⟨by show (0:Int)≤_;omega,by show _≤(255:Int);omega⟩
theorem ZGl (hS:St K w0 v0 σ ℓ v a w) {t:TypeId} {x:Operand} {l:List UInt8} {ats:Array TypeId} (e:ev σ x=some (.string (Zg l))) (h:ats[0]? = some t) (ht:P.underlying t=some .string) :
  (execOp a.eval ⟨d,.call ⟨.builtin .len,#[x],ats⟩,ty,pos,aft,g⟩).run P w = .ok (.value (.int .i64 l.length)) w:=by
 simp[execOp,resolve,invoke,builtin,Builtin.len_,hS.eval e,h,run_underlying ht,goInt,Zxb]
theorem Zxm (hS:St K w0 v0 σ ℓ v a w) {t:TypeId} {x i:Operand} {l:List UInt8} {k:IntKind} {j:Int} {y:UInt8} (e:ev σ x=some (.string (Zg l))) (ei:ev σ i=some (.int k j)) (ht:P.underlying t=some .string) (h:idx l j=some y) :
  (execOp a.eval ⟨d,.index t x i,ty,pos,aft,g⟩).run P w = .ok (.value (.int .u8 (y.toNat:Int))) w:=by
 obtain⟨h0,h1,h2,h3⟩:=ZPa h;have hr:=run_index_string (P:=P) w t (Zg l) k j ht;have hs:0≤j∧j<(Zg l).size:=⟨h0,by rw[Zxb];exact h2⟩;rw[dif_pos hs]at hr;have hg:(Zg l)[j.toNat]'(by rw[Zxb];exact h3)=y:=by
  show (l.toArray)[j.toNat]'(by simpa using h3)=y;rw[List.getElem?_eq_getElem h3]at h1
  simpa using h1
 rw[hg]at hr;simp[execOp,hS.eval e,hS.eval ei,hr]
theorem Zdj (l:List UInt8) (p r:Nat):(Zg l).extract p r=Zg ((l.take r).drop p):=by
 unfold Zg;rw[ByteArray.extract_mk,List.drop_take]
theorem Z7k (hS:St K w0 v0 σ ℓ v a w) {t:TypeId} {x:Operand} {lo hi:Option Operand} {l y:List UInt8} {p r:Int} (e:ev σ x=some (.string (Zg l))) (ht:P.underlying t=some .string)
  (elo:(lo=none∧p=0) ∨ ∃ y k,lo=some y∧ev σ y=some (.int k p)) (ehi:(hi=none∧r=l.length) ∨ ∃ y k,hi=some y∧ev σ y=some (.int k r)) (h:ZKa l p r=some y) :
  (execOp a.eval ⟨d,.slice t x lo hi none,ty,pos,aft,g⟩).run P w = .ok (.value (.string (Zg y))) w:=by
 obtain⟨h0,h1,h2,rfl,_⟩:=Zdg h;have hl:r≤(Zg l).size:=by rw[Zxb];exact h2
 have hle:(List.take r.toNat l).length=r.toNat:=by simp;omega
 have e0:Zg ((l.take r.toNat).drop p.toNat)=(Zg l).extract p.toNat r.toNat:=(Zdj l _ _).symm;rcases elo with ⟨rfl,rfl⟩ | ⟨y,k,rfl,hy⟩ <;> rcases ehi with ⟨rfl,rfl⟩ | ⟨y',k',rfl,hy'⟩
 ·have:=run_slice_string_all (P:=P) w t (Zg l) ht;have e1:(Zg l).extract 0 (Zg l).size=Zg l:=by rw[Zdj,Zxb];simp
  rw[e1]at this;simp[execOp,Instr.sliceAt,run_underlying ht,hS.eval e,this]
 ·have:=run_slice_string_to_if (P:=P) w t (Zg l) k' r ht;have hc:0≤r∧r≤(Zg l).size:=⟨by omega,hl⟩;simp[hc]at this;rw[e0];simp[execOp,Instr.sliceAt,run_underlying ht,hS.eval e,hS.eval hy',this]
 ·have:=run_slice_string_from_if (P:=P) w t (Zg l) k p ht;have hc:0≤p∧p≤(Zg l).size:=⟨by omega,by omega⟩;simp[hc]at this;rw[e0];simp[execOp,Instr.sliceAt,run_underlying ht,hS.eval e,hS.eval hy,this,Zxb]
 ·have:=run_slice_string (P:=P) w t (Zg l) k k' p r ht h0 h1 hl;rw[e0];simp[execOp,Instr.sliceAt,run_underlying ht,hS.eval e,hS.eval hy,hS.eval hy',this]
theorem ZSf (hS:St K w0 v0 σ ℓ v a w) {op:BinOp} {t t':TypeId} {x y:Operand} {l m:List UInt8} {z:Value} (e:ev σ x=some (.string (Zg l))) (e':ev σ y=some (.string (Zg m)))
  (h:∀ w,(binOp op t (.string (Zg l)) (.string (Zg m))).run P w = .ok z w):(execOp a.eval ⟨d,.binOp op t x y t',ty,pos,aft,g⟩).run P w = .ok (.value z) w:=by
 cases op <;> simp[execOp,hS.eval e,hS.eval e',eqGuard,h]
def ZBb (l:List UInt8):Option Unit:=if l.length≤maxLen then some () else none
theorem Z3h {l:List UInt8} {u:Unit} (h:ZBb l=some u):l.length≤maxLen:=by
 unfold ZBb at h;split at h
 ·assumption
 ·cases h
theorem str_add {t:TypeId} {l m:List UInt8} {u:Unit} (h:ZBb (l++m)=some u) (w:World):(binOp .add t (.string (Zg l)) (.string (Zg m))).run P w = .ok (.string (Zg (l++m))) w:=by
 have:=Z3h h;rw[lA]at this;have h2:=run_string_add_sum (P:=P) w (Zg l) (Zg m) (by rw[Zxb,Zxb];exact this);have e:Zg l++Zg m=Zg (l++m):=ByteArray.mk_append_mk l m;rw[e]at h2
 simpa [binOp] using h2
theorem str_eql {t:TypeId} {l m:List UInt8} (w:World):(binOp .eql t (.string (Zg l)) (.string (Zg m))).run P w = .ok (.bool (l==m)) w:=by
 simp[binOp,Op.stringOp,Zph]
theorem str_neq {t:TypeId} {l m:List UInt8} (w:World):(binOp .neq t (.string (Zg l)) (.string (Zg m))).run P w = .ok (.bool (l != m)) w:=by
 simp[binOp,Op.stringOp,Zph,bne]
theorem ZSk {α:Type} {l y:List α} {p r:Int} (h:ZKa l p r=some y) {n:Nat} (hl:l.length≤n):y.length≤n:=by
 obtain⟨h0,h1,h2,rfl,h3⟩:=Zdg h;omega
end Go.Eng
namespace Go.Eng
open Go.RowKit
variable {P:Program} {K:Nat} {w0:Base} {v0:Za} {σ:List (Nat×Value)} {ℓ:List Loc} {v:Za} {a:Act} {w:World}
variable {d:Option Nat} {ty:TypeId} {pos:String} {aft:Array Edge} {g:Option (Nat×Bool)}
def RetL (P:Program) (f:FuncId) (args:Array Value) (w:World) (v:Za) (lent:List Nat) (R:Value→Za→World→Prop):Prop :=
 Calls P f args w λe w'=>∃ r v',e = .returned r∧ExtB ⟨w,lent⟩ w'∧VStepB ⟨w,lent⟩ v w' v'∧R r v' w'
theorem St.lend (h:St K w0 v0 σ ℓ v a w) {i b:Nat} {e:Loc} {ℓ':List Loc} (hi:ℓ[i]? = some e) (hb:e.blk=some b) (hℓ:ℓ'=ℓ.eraseIdx i) :
  ∃ v' o,v.le v'∧v' b=some o∧St K w0 v0 σ ℓ' v' a w∧w.heap[b]? = some o∧v b=none∧(w0.wd.heap.size≤b∨b ∈ w0.lent):=by
 obtain⟨he,hv⟩:=h.loc e (mG hi);obtain⟨_,hg⟩:=Loc.blk_get he hb;obtain⟨v',h1,h2,h3⟩:=h.publish hi hb hg hℓ;exact⟨v',_,h1,h2,h3,hg,(hv b hb).2,(hv b hb).1⟩
end Go.Eng
namespace Go.Eng
open Go.RowKit
variable {P:Program} {K:Nat} {w0:Base} {v0:Za} {σ:List (Nat×Value)} {ℓ:List Loc} {v:Za} {a:Act} {w:World}
variable {d:Option Nat} {ty:TypeId} {pos:String} {aft:Array Edge} {g:Option (Nat×Bool)}
theorem Z0k {t e ty:TypeId} {sz bytes:Nat} {z:Value} (E:Elem P t e sz bytes z) {n cap c:Nat} {q:Option Addr} (h:n≤cap) (w:World) :
  (Builtin.append_ #[t,t] ty #[.slice q n cap,.slice none 0 c]).run P w = .ok (.slice q n cap) w:=by
 obtain⟨inf,hinf,hz,hs,hby⟩:=info_parts E.info
 cases q <;> simp[Builtin.append_,run_underlying E.ty,sizeOf,typeInfo,hinf,Builtin.lenOf,Builtin.firstCells,h,storeCells]
theorem Zsc {α:Type} {A:Rep α} {t e ty:TypeId} {bytes:Nat} {z:Value} (E:Elem P t e A.n bytes z) (hS:St K w0 v0 σ ℓ v a w) {i n cap:Nat} {b:Option Nat} {cs:List Value} (hi:ℓ[i]? = some (.own b e A.n n cap cs))
  {q:Option Addr} {m c:Nat} {l:List α} (hr:(Zo A).rel v [.slice q m c] l) {n':Nat} (hn':n'=n+m) (hbytes:n'*bytes≤140737488355328) (hpos:0<bytes) :
  ∃ b' cap' cs2 w',(Builtin.append_ #[t,t] ty #[.slice (mkA b) n cap,.slice q m c]).run P w = .ok (.slice (mkA b') n' cap') w'∧St K w0 v0 σ (ℓ.set i (.own b' e A.n n' cap' (cs++cs2))) v a w'∧A.rels v cs2 l:=by
 obtain⟨q',c',eq,h1,h2,h3⟩:=hr
 cases eq
 have hrow:n≤cap:=by
  have:=(hS.loc _ (mG hi)).1
  cases b with
  | none=>obtain⟨h,_⟩:=this;omega
  | some b=>obtain⟨_,_,_,h,_⟩:=this;exact h
 cases q with
 | none =>
  have hl:l=[]:=by
   rcases h3 with h | ⟨_,_,_,_,_,e,_⟩
   ·exact h
   ·cases e
  subst hl;have hn2:n'=n:=by simpa using hn'
  rw[hn2];have hset:ℓ.set i (.own b e A.n n cap cs)=ℓ:=by
   apply List.ext_getElem?;intro j;by_cases hj:i=j
   ·subst hj;have hlt:i<ℓ.length:=(List.getElem?_eq_some_iff.1 hi).1;rw[List.getElem?_set_self hlt,hi]
   ·rw[List.getElem?_set_ne hj]
  refine⟨b,cap,[],w,Z0k E hrow w,?_,rfl⟩;rw[List.append_nil];show St K w0 v0 σ (ℓ.set i (.own b e A.n n cap cs)) v a w;rw[hset];exact hS
 | some ad =>
  by_cases hl0:l=[]
  ·subst hl0;obtain⟨b',cap',w',hr',hS'⟩:=ZQh (ty:=ty) E hS hi (ad:=ad) (m:=0) (c:=c) (news:=[]) (by simp) (by simp) rfl (n':=n') (by simpa using hn') hbytes hpos;exact⟨b',cap',[],w',hr',hS',rfl⟩
  ·rcases h3 with h | ⟨b1,off,cc,T,fr,e1,hb,hrel⟩
   ·exact absurd h hl0
   ·cases e1
    have hlen:=Zkb hrel;obtain⟨b',cap',w',hr',hS'⟩:=ZQh (ty:=ty) E hS hi (ad:=⟨b1,off,none⟩) (m:=l.length) (c:=c) (news:=(cc.toList.drop off).take (l.length*A.n)) hlen
     (λj u hj=>by
      have hw:WAt w b1 off ((cc.toList.drop off).take (l.length*A.n)):=⟨cc,T,fr,hS.vin _ _ hb,by rw[hlen]⟩;rw[ZMa];exact hw.cell hj) (ZDj hrel) hn' hbytes hpos
    exact⟨b',cap',_,w',hr',hS',hrel⟩
end Go.Eng
namespace Go.Eng
open Go.RowKit
variable {P:Program} {K:Nat} {w0:Base} {v0:Za} {σ:List (Nat×Value)} {ℓ:List Loc} {v:Za} {a:Act} {w:World}
variable {d:Option Nat} {ty:TypeId} {pos:String} {aft:Array Edge} {g:Option (Nat×Bool)}
def Z5e (P:Program) (t:TypeId) (n sz:Nat):Prop:=∃ e,(∀ w,(underlying t).run P w = .ok (.array n e) w)∧∀ w,(sizeOf e).run P w = .ok sz w
theorem Zwm (hS:St K w0 v0 σ ℓ v a w) {t:TypeId} {n sz b o:Nat} {x i:Operand} {k:IntKind} {j:Int} (ht:Z5e P t n sz) (e:ev σ x=some (.pointer (some ⟨b,o,none⟩))) (ei:ev σ i=some (.int k j)) (h0:0≤j) (h1:j<n) :
  (execOp a.eval ⟨d,.indexAddr t x i,ty,pos,aft,g⟩).run P w = .ok (.value (.pointer (some ⟨b,o+j.toNat*sz,none⟩))) w:=by
 obtain⟨et,h2,h3⟩:=ht;simp[execOp,Instr.indexAt,Instr.sureAddr,hS.eval e,hS.eval ei,asIntOf,h2,h3,h0,h1,ZMa]
end Go.Eng
namespace Go.Eng
open Go.RowKit
def rPtr {α:Type} (A:Rep α):Rep α where
 n:=1
 agg:=false
 rel v cs x:=∃ b o c,cs=[.pointer (some ⟨b,o,none⟩)]∧At v b o c∧A.rel v c x
 len h:=by obtain⟨_,_,_,rfl,_⟩:=h;rfl
 mono hv h:=by obtain⟨b,o,c,e,h1,h2⟩:=h;exact⟨b,o,c,e,h1.mono hv,A.mono hv h2⟩
 flat h:=by obtain⟨_,_,_,rfl,_⟩:=h;rfl
theorem rPtr_mk {α:Type} {A:Rep α} {v:Za} {b o:Nat} {c:List Value} {x:α} (h:At v b o c) (k:A.rel v c x):(rPtr A).rel v [.pointer (some ⟨b,o,none⟩)] x:=⟨b,o,c,rfl,h,k⟩
variable {P:Program} {K:Nat} {w0:Base} {v0:Za} {σ:List (Nat×Value)} {ℓ:List Loc} {v:Za} {a:Act} {w:World}
theorem St.pubVar (h:St K w0 v0 σ ℓ v a w) {i b:Nat} {T:TypeId} {cs:List Value} {ℓ':List Loc} (hi:ℓ[i]? = some (.box b T cs)) (hℓ:ℓ'=ℓ.eraseIdx i):∃ v',v.le v'∧St K w0 v0 σ ℓ' v' a w∧At v' b 0 cs:=by
 obtain⟨v',h1,h2,h3⟩:=h.pubBox hi hℓ;exact⟨v',h1,h2,at_box h3 0 cs (by simp)⟩
end Go.Eng
namespace Go.Eng
open Go.RowKit
variable {P:Program} {K:Nat} {w0:Base} {v0:Za} {σ:List (Nat×Value)} {ℓ:List Loc} {v:Za} {a:Act} {w:World}
variable {d:Option Nat} {ty:TypeId} {pos:String} {aft:Array Edge} {g:Option (Nat×Bool)}
theorem Zek (hS:St K w0 v0 σ ℓ v a w) {x:Operand} {f:FuncId} {xs:Array Operand} {ats:Array TypeId} (vals caps:List Value) (hf:ZM P f) (e:ev σ x=some (.func (.func f) #[] caps.toArray))
  (h:xs.toList.map (ev σ)=vals.map some):(execOp a.eval ⟨d,.call ⟨.value x,xs,ats⟩,ty,pos,aft,g⟩).run P w = .ok (.enter f (vals++caps).toArray) w:=by
 have:=ZKi (d:=d) (ty:=ty) (pos:=pos) (aft:=aft) (g:=g) (ats:=ats) hS hf e h
 simpa using this
end Go.Eng
namespace Go.Eng
open Go.RowKit
variable {P:Program} {K:Nat} {w0:Base} {v0:Za} {σ:List (Nat×Value)} {ℓ:List Loc} {v:Za} {a:Act} {w:World}
variable {d:Option Nat} {ty:TypeId} {pos:String} {aft:Array Edge} {g:Option (Nat×Bool)}
theorem Z4h (hS:St K w0 v0 σ ℓ v a w) {t:TypeId} {n sz b o:Nat} {x i:Operand} {k:IntKind} {j:Int} (ht:Z5e P t n sz) (e:ev σ x=some (.pointer (some ⟨b,o,none⟩))) (ei:ev σ i=some (.int k j)) (h0:0≤j) (h1:j<n) (q:Nat) (hq:o+j.toNat*sz=q) :
  (execOp a.eval ⟨d,.indexAddr t x i,ty,pos,aft,g⟩).run P w = .ok (.value (.pointer (some ⟨b,q,none⟩))) w:=by
 rw[Zwm hS ht e ei h0 h1,hq]
end Go.Eng
namespace Go.Eng
open Go.RowKit
theorem zl {a b:Nat} (h:Nat.ble a b=true:=by rfl):a≤b:=lB h
theorem wn {o:Oper} {y:Nat→Option Bool} (h:o.guard=none:=by rfl):Region.wanted o y=true:=Zta h
section
variable {P:Program} {K:Nat} {w0:Base} {v0:Za} {σ σ':List (Nat×Value)} {ℓ:List Loc} {v:Za} {a:Act} {w:World}
variable {ops:Array Oper} {Q:Exit→Act→World→Prop} {rest:List Oper}
theorem ov {o:Oper} {d:Nat} {x:Value} (hS:St K w0 v0 σ ℓ v a w) (hc:(o.dst,o.guard,Nat.ble (d+1) K)=(some d,none,true)) (hrun:(execOp a.eval o).run P w = .ok (.value x) w)
  (h:∀ a,St K w0 v0 ((d,x) :: σ) ℓ v a w→wpList P ops Q rest a w):wpList P ops Q (o :: rest) a w :=
 op_v hS (Zta (Prod.mk.inj (Prod.mk.inj hc).2).1) (Prod.mk.inj hc).1 (lB (Prod.mk.inj (Prod.mk.inj hc).2).2) hrun h
theorem mv {d:Nat} {x:Operand} {y:Value} {ty:TypeId} {pos:String} {aft:Array Edge} (hS:St K w0 v0 σ ℓ v a w) (hc:(ev σ x,Nat.ble (d+1) K)=(some y,true))
  (h:∀ a,St K w0 v0 ((d,y) :: σ) ℓ v a w→wpList P ops Q rest a w):wpList P ops Q (⟨some d,.move x,ty,pos,aft,none⟩ :: rest) a w :=
 op_v hS (Zta rfl) rfl (lB (Prod.mk.inj hc).2) (Z1f hS (Prod.mk.inj hc).1) h
theorem mw {d:Nat} {x:Operand} {y:Value} {ty:TypeId} {pos:String} {aft:Array Edge} (hS:St K w0 v0 σ ℓ v a w) (hc:(ev σ x,Nat.ble (d+1) K)=(some y,true))
  (h:∀ a,St K w0 v0 ((d,y) :: σ) ℓ v a w→wpList P ops Q rest a w):wpList P ops Q (⟨some d,.assign x,ty,pos,aft,none⟩ :: rest) a w :=
 op_v hS (Zta rfl) rfl (lB (Prod.mk.inj hc).2) (Z5f hS (Prod.mk.inj hc).1) h
theorem ob {d T:Nat} {x:Operand} {y:Value} {cs:List Value} {ty:TypeId} {pos:String} {aft:Array Edge} (hS:St K w0 v0 σ ℓ v a w) (hc:(ev σ x,Nat.ble (d+1) K)=(some y,true)) (hy:y.cells=cs.toArray)
  (h:∀ b a w,St K w0 v0 ((d,.pointer (some ⟨b,0,none⟩)) :: σ) (.box b T cs :: ℓ) v a w→wpList P ops Q rest a w):wpList P ops Q (⟨some d,.box T x,ty,pos,aft,none⟩ :: rest) a w :=
 op_new hS (Zta rfl) rfl (lB (Prod.mk.inj hc).2) (by rw[← hy];exact ZUi hS (Prod.mk.inj hc).1) h
theorem sr {ops:Array Oper} {n:Nat} {y:Code} (h:wpList P ops (Exit.then (y.wp P Q) Q) ops.toList a w):(Code.seq (.region n ops false) y).wp P Q a w:=wp_seq (wp_region_lit h)
theorem oe {y:Code} (h:y.wp P Q a w):wpList P ops (Exit.then (y.wp P Q) Q) [] a w:=op_end (ZKg h)
end
end Go.Eng
namespace Go.Eng
open Go.RowKit
section
variable {P:Program} {K:Nat} {w0:Base} {v0:Za} {σ σ':List (Nat×Value)} {ℓ:List Loc} {v:Za} {a:Act} {w:World}
variable {ops:Array Oper} {Q:Exit→Act→World→Prop} {rest:List Oper}
theorem la {d:Option Nat} {ty:TypeId} {pos:String} {aft:Array Edge} {g:Option (Nat×Bool)} (hS:St K w0 v0 σ ℓ v a w) {t T:TypeId} {x:Operand} {n b off:Nat} {cs cs0:List Value} (e:ev σ x=some (.pointer (some ⟨b,off,none⟩))) (ht:Sized P t n true)
  (i:Nat) (k:ℓ[i]? = some (.box b T cs0)) (hs:(cs0.drop off).take cs.length=cs) (hn:cs.length=n):(execOp a.eval ⟨d,.load t x,ty,pos,aft,g⟩).run P w = .ok (.value (.agg cs.toArray)) w :=
 ZAj hS e ht hn (hS.box k off cs hs)
theorem lo {d:Option Nat} {ty:TypeId} {pos:String} {aft:Array Edge} {g:Option (Nat×Bool)} (hS:St K w0 v0 σ ℓ v a w) {t T:TypeId} {x:Operand} {n b off:Nat} {y:Value} {cs0:List Value} (e:ev σ x=some (.pointer (some ⟨b,off,none⟩))) (ht:Sized P t n false)
  (i:Nat) (k:ℓ[i]? = some (.box b T cs0)) (hs:(cs0.drop off).take 1=[y]):(execOp a.eval ⟨d,.load t x,ty,pos,aft,g⟩).run P w = .ok (.value y) w :=
 Zxe hS e ht (hS.box k off [y] hs)
end
end Go.Eng
namespace Go.Eng
open Go.RowKit
section
variable {P:Program} {K:Nat} {w0:Base} {v0:Za} {σ σ':List (Nat×Value)} {ℓ:List Loc} {v:Za} {a:Act} {w:World}
end
end Go.Eng
namespace Go.Eng
open Go.RowKit
section
variable {K:Nat} {w0:Base} {v0:Za} {σ:List (Nat×Value)} {ℓ:List Loc} {v:Za} {a:Act} {w:World} {P:Program} {d:Option Nat} {ty:TypeId} {pos:String} {aft:Array Edge} {g:Option (Nat×Bool)}
end
end Go.Eng
namespace Go.Eng
open Go.RowKit
structure HD where
 d:Nat
 T:TypeId
 cs:List Value
section
variable {P:Program} {K:Nat} {w0:Base} {v0:Za} {σ:List (Nat×Value)} {ℓ:List Loc} {v:Za} {a:Act} {w:World}
variable {ops:Array Oper} {Q:Exit→Act→World→Prop}
theorem St.sub {ℓ1 ℓ2:List Loc} (h:St K w0 v0 σ (ℓ1++ℓ2) v a w):St K w0 v0 σ ℓ2 v a w :=
 ⟨h.size,h.dfr,h.fr,h.ext,h.vst,λe he=>h.loc e (List.mem_append_right _ he),by have:=h.nd;rw[List.filterMap_append]at this;exact (List.nodup_append.1 this).2.1⟩
def hs (g:Nat→HD) (X:List Nat) (β:Nat→Nat):List Loc:=X.map λi=>.box (β i) (g i).T (g i).cs
def hp (g:Nat→HD) (X:List Nat) (β:Nat→Nat):List (Nat×Value):=X.map λi=>((g i).d,.pointer (some ⟨β i,0,none⟩))
end
end Go.Eng
namespace Go.Eng
open Go.RowKit
def rFloat (k:FloatKind):Rep Nat where
 n:=1
 agg:=false
 rel v cs x:=cs=[.float k x]∧x<18446744073709551616
 len h:=by obtain⟨rfl,_⟩:=h;rfl
 mono _ h:=h
 flat h:=by obtain⟨rfl,_⟩:=h;rfl
section
variable {P:Program} {K:Nat} {w0:Base} {v0:Za} {σ:List (Nat×Value)} {ℓ:List Loc} {v:Za} {a:Act} {w:World}
variable {d:Option Nat} {ty:TypeId} {pos:String} {aft:Array Edge} {g:Option (Nat×Bool)}
end
end Go.Eng
namespace Go.Eng
open Go.RowKit
section
variable {P:Program} {K:Nat} {w0:Base} {v0:Za} {σ:List (Nat×Value)} {ℓ:List Loc} {v:Za} {a:Act} {w:World}
variable {d:Option Nat} {ty:TypeId} {pos:String} {aft:Array Edge} {g:Option (Nat×Bool)}
end
end Go.Eng
namespace Go.Eng
open Go.RowKit
def ZE (B:Nat) (n:Nat):List Int:=if h:n=0∨B<2 then [] else ((n%B:Nat):Int) :: ZE B (n / B)
termination_by n
decreasing_by exact Nat.div_lt_self (by omega) (by omega)
def rW:Rep (List Int):=Zo (Zs .u64)
def rW32:Rep (List Int):=Zo (Zs .u32)
def Zoa:Rep Nat:=rW.via (ZE 18446744073709551616)
def Z5:Rep Nat:=rW32.via (ZE 4294967296)
def ZRa:Rep Int:=(ZI ZQc Zoa).via λi=>(decide (i<0),i.natAbs)
def denR (d:Nat):Nat:=if d=1 then 0 else d
def rRat:Rep Rat:=(ZI ZRa Zoa).via λq=>(q.num,denR q.den)
def rQ:Rep Rat:=(ZI ZQc (ZI Z5 Z5)).via λq=>(decide (q.num<0),q.num.natAbs,q.den)
theorem ZYb {α:Type} {A:Rep α} {v:Za} {cs:List Value} {l:List α} (h:(Zo A).rel v cs l):∃ q n k,cs=[.slice q n k]:=by
 obtain⟨q,cap,e,_⟩:=h;exact⟨q,_,cap,e⟩
theorem Zwc {v:Za} {cs:List Value} {n:Nat} (h:Zoa.rel v cs n):∃ q n k,cs=[.slice q n k]:=ZYb (A:=Zs .u64) h
theorem Zpb {v:Za} {cs:List Value} {n:Nat} (h:Z5.rel v cs n):∃ q n k,cs=[.slice q n k]:=ZYb (A:=Zs .u32) h
theorem ZKe {v:Za} {cs:List Value} {i:Int} (h:ZRa.rel v cs i):∃ s q n k,cs=[.bool s,.slice q n k]:=by
 obtain⟨c1,c2,rfl,h1,h2⟩:=h;obtain⟨q,n,k,rfl⟩:=Zwc h2;exact⟨_,q,n,k,by rw[show c1=_ from h1];rfl⟩
theorem ZEl {v:Za} {cs:List Value} {q:Rat} (h:rRat.rel v cs q):∃ s q n k q' n' k',cs=[.bool s,.slice q n k,.slice q' n' k']:=by
 obtain⟨c1,c2,rfl,h1,h2⟩:=h;obtain⟨s,q,n,k,rfl⟩:=ZKe h1;obtain⟨q',n',k',rfl⟩:=Zwc h2;exact⟨s,q,n,k,q',n',k',rfl⟩
theorem Z3l {v:Za} {cs:List Value} {q:Rat} (h:rQ.rel v cs q):∃ s q n k q' n' k',cs=[.bool s,.slice q n k,.slice q' n' k']:=by
 obtain⟨c1,c23,rfl,h1,c2,c3,rfl,h2,h3⟩:=h;obtain⟨q,n,k,rfl⟩:=Zpb h2;obtain⟨q',n',k',rfl⟩:=Zpb h3;exact⟨_,q,n,k,q',n',k',by rw[show c1=_ from h1];rfl⟩
theorem ZMi (B:Nat):ZE B 0=[]:=by unfold ZE;simp
theorem ZZe (v:Za):Zoa.rel v [.slice none 0 0] 0:=by
 show (Zo (Zs .u64)).rel v _ (ZE _ 0);rw[ZMi];exact ZTd _ v
theorem ZEe (v:Za):Z5.rel v [.slice none 0 0] 0:=by
 show (Zo (Zs .u32)).rel v _ (ZE _ 0);rw[ZMi];exact ZTd _ v
theorem ZVh (v:Za):ZRa.rel v [.bool false,.slice none 0 0] 0:=⟨[.bool false],[.slice none 0 0],rfl,rfl,ZZe v⟩
theorem Zjk (v:Za):rRat.rel v [.bool false,.slice none 0 0,.slice none 0 0] 0:=⟨[.bool false,.slice none 0 0],[.slice none 0 0],rfl,ZVh v,ZZe v⟩
theorem lt_FUEL {n:Nat} (h:n<2^65):n<Zu:=Nat.lt_of_lt_of_le h (by unfold Zu;exact Nat.pow_le_pow_right (by omega) (by omega))
theorem ZXb {x:Int} (h:-9223372036854775808≤x) (h':x≤9223372036854775807):chk .i64 x=some x:=chk_eq (Z2a.2 ⟨h,h'⟩)
theorem ZQa {α:Type} {l:List α} {i:Nat} (h:i<l.length):idx l (i:Int)=some l[i]:=by simp[idx,h]
theorem Zb {α β:Type} (x:α) (f:α→Option β):bnd (some x) f=f x:=(rfl:bnd (some x) f=f x).trans rfl
theorem Zq {α:Type} (x y:Option α):ifb true x y=x:=(rfl:ifb true x y=x).trans rfl
theorem Zi {α:Type} (x y:Option α):ifb false x y=y:=(rfl:ifb false x y=y).trans rfl
def val (B:Nat):List Int→Nat
 | []=>0
 | x :: l=>x.toNat+B*val B l
def clo (l:List Int):Option Nat:=if ZE 18446744073709551616 (val 18446744073709551616 l)=l then some (val 18446744073709551616 l) else none
def Zve (l:List Int):Option Nat:=if ZE 4294967296 (val 4294967296 l)=l then some (val 4294967296 l) else none
theorem Z5l {l:List Int} {n:Nat} (h:clo l=some n):ZE 18446744073709551616 n=l:=by
 unfold clo at h;split at h
 ·cases h;assumption
 ·cases h
theorem Z4j {l:List Int} {n:Nat} (h:Zve l=some n):ZE 4294967296 n=l:=by
 unfold Zve at h;split at h
 ·cases h;assumption
 ·cases h
theorem clo_rel {v:Za} {c:List Go.Value} {l:List Int} {n:Nat} (h:(Zo (Zs .u64)).rel v c l) (e:clo l=some n):Zoa.rel v c n:=by
 show (Zo (Zs .u64)).rel v c (ZE 18446744073709551616 n);rw[Z5l e];exact h
theorem ZKl {v:Za} {c:List Go.Value} {l:List Int} {n:Nat} (h:(Zo (Zs .u32)).rel v c l) (e:Zve l=some n):Z5.rel v c n:=by
 show (Zo (Zs .u32)).rel v c (ZE 4294967296 n);rw[Z4j e];exact h
def okN (n:Nat):Prop:=(ZE 18446744073709551616 n).length≤68719476736
instance (n:Nat):Decidable (okN n):=inferInstanceAs (Decidable (_≤_))
def bl (n:Nat):Nat:=if n=0 then 0 else Nat.log2 n+1
def cloI (s:Bool) (n:Nat):Option Int:=if s=true∧n=0 then none else some (if s then -(n:Int) else n)
theorem ZBl {v:Za} {s:Bool} {x:Value} {i:Int} (h:ZRa.rel v [.bool s,x] i):s=decide (i<0)∧Zoa.rel v [x] i.natAbs:=by
 obtain⟨c1,c2,e,h1,h2⟩:=h;have h1':c1=[.bool (decide (i<0))]:=h1;subst h1'
 cases e
 exact⟨rfl,h2⟩
theorem ZFl {v:Za} {s:Bool} {x:Value} {n:Nat} {i:Int} (h:Zoa.rel v [x] n) (e:cloI s n=some i):ZRa.rel v [.bool s,x] i:=by
 unfold cloI at e;split at e
 ·cases e
 ·rename_i hn
  cases e
  refine⟨[.bool s],[x],rfl,?_,?_⟩
  ·show [Value.bool s]=[Value.bool (decide _)]
   cases s
   ·simp
   ·have:n≠0:=λh0=>hn ⟨rfl,h0⟩;simp;omega
  ·show Zoa.rel v [x] (Int.natAbs _)
   cases s
   ·exact h
   ·simpa using h
theorem Zbl {v:Za} {a b c:Value} {q:Rat} (h:rRat.rel v [a,b,c] q):ZRa.rel v [a,b] q.num∧Zoa.rel v [c] (denR q.den):=by
 obtain⟨c1,c2,e,h1,h2⟩:=h;obtain⟨s,q',n,k,e1⟩:=ZKe h1;obtain⟨q2,n2,k2,e2⟩:=Zwc h2;have h1':c1=[.bool s,.slice q' n k]:=e1;have h2':c2=[.slice q2 n2 k2]:=e2;subst h1' h2'
 cases e
 exact⟨h1,h2⟩
def lowD (d:Nat):Nat:=if d=0 then 1 else d
def cloQ (i:Int) (d:Nat):Option Rat:=if d≠1∧(mkRat i (lowD d)).num=i∧denR (mkRat i (lowD d)).den=d then some (mkRat i (lowD d)) else none
theorem ZRk {v:Za} {a b c:Value} {i:Int} {d:Nat} {q:Rat} (h1:ZRa.rel v [a,b] i) (h2:Zoa.rel v [c] d) (e:cloQ i d=some q):rRat.rel v [a,b,c] q:=by
 unfold cloQ at e;split at e
 ·rename_i hh;obtain⟨_,h3,h4⟩:=hh;have e:=Option.some.inj e;rw[e]at h3 h4;refine⟨[a,b],[c],rfl,?_,?_⟩
  ·show ZRa.rel v [a,b] q.num;rw[h3];exact h1
  ·show Zoa.rel v [c] (denR q.den);rw[h4];exact h2
 ·cases e
def okQ (x:Rat):Prop:=bl x.num.natAbs≤1099511627776∧bl x.den≤1099511627776
instance (x:Rat):Decidable (okQ x):=inferInstanceAs (Decidable (_∧_))
theorem rQ_open {v:Za} {s:Bool} {a b:Value} {q:Rat} (h:rQ.rel v [.bool s,a,b] q):s=decide (q.num<0)∧Z5.rel v [a] q.num.natAbs∧Z5.rel v [b] q.den:=by
 obtain⟨c1,c23,e,h1,c2,c3,rfl,h2,h3⟩:=h;obtain⟨q',n',k',rfl⟩:=Zpb h2;obtain⟨q2,n2,k2,rfl⟩:=Zpb h3;have h1':c1=[.bool (decide (q.num<0))]:=h1;subst h1'
 cases e
 exact⟨rfl,h2,h3⟩
def sgn (s:Bool) (n:Nat):Int:=if s then -(n:Int) else n
def Z8d (s:Bool) (n d:Nat):Option Rat:=if decide ((mkRat (sgn s n) d).num<0)=s∧(mkRat (sgn s n) d).num.natAbs=n∧(mkRat (sgn s n) d).den=d then some (mkRat (sgn s n) d) else none
theorem Zsh {v:Za} {s:Bool} {a b:Value} {n d:Nat} {q:Rat} (h1:Z5.rel v [a] n) (h2:Z5.rel v [b] d) (e:Z8d s n d=some q):rQ.rel v [.bool s,a,b] q:=by
 unfold Z8d at e;split at e
 ·rename_i hh;obtain⟨h3,h4,h5⟩:=hh;have e:=Option.some.inj e;rw[e]at h3 h4 h5;refine⟨[.bool s],[a,b],rfl,?_,[a],[b],rfl,?_,?_⟩
  ·show [Value.bool s]=[Value.bool (decide (q.num<0))];rw[h3]
  ·show Z5.rel v [a] q.num.natAbs;rw[h4];exact h1
  ·show Z5.rel v [b] q.den;rw[h5];exact h2
 ·cases e
section
variable {P:Program} {K:Nat} {w0:Base} {v0:Za} {σ:List (Nat×Value)} {ℓ:List Loc} {v:Za} {a:Act} {w:World}
variable {d:Option Nat} {ty:TypeId} {pos:String} {aft:Array Edge} {g:Option (Nat×Bool)}
end
end Go.Eng
namespace Go.Eng
open Go.RowKit Go.WideShapes Go.ChangeShapes
def Zsg (W:World):Za:=λb=>W.heap[b]?
theorem Zrl (W:World):VIn (Zsg W) W:=λ_ _ h=>h
def ZVb (P:Program) (t:TypeId) {α:Type} (A:Rep α):Prop:=∀ (H:Type) (enc:TypeId×Value→H) (W:World) (fuel:Nat) (cs:List Value) (x:DataW H×List MemPlace),
 DataW.trod enc P W 0 (λ_=>true) true fuel t cs=some x→∃ a,A.rel (Zsg W) cs a
theorem Zqj {P:Program} {t:TypeId} {k:IntKind} (ht:P.underlying t=some (.int k)):ZVb P t (Zs k):=by
 intro H enc W fuel cs x h
 cases fuel with
 | zero=>simp[DataW.trod]at h
 | succ n =>
  unfold DataW.trod at h;rw[ht]at h;split at h <;> simp_all;rename_i k2 z heq;obtain⟨⟨rfl,hw⟩,_⟩:=h;refine⟨z,rfl,?_⟩;simp only[Lit.wf,Bool.and_eq_true,decide_eq_true_eq]at hw;exact hw
theorem Zwl {W:World} {b o n:Nat} {c:Array Value} {T:TypeId} {fr:Nat×Nat} {cs:List Value} (hg:W.heap[b]? = some (.cells c T fr)) (h:W.cells? 0 ⟨b,o,none⟩ n=some cs):cs=(c.toList.drop o).take n:=by
 obtain⟨_,hlen,hc⟩:=World.cells?_some h;apply List.ext_getElem?;intro j;by_cases hj:j<n
 ·have h1:=hc j (by omega);rw[ZMa]at h1;simp only[World.cell?,hg,Option.isSome_none,Bool.false_eq_true,if_false]at h1;rw[List.getElem?_take_of_lt hj,List.getElem?_drop]
  simpa using h1.symm
 ·rw[List.getElem?_eq_none (by omega),List.getElem?_take_eq_none (by omega)]
theorem Z1j {P:Program} {t e:TypeId} {α:Type} {A:Rep α} (ht:P.underlying t=some (.slice e)) (hA:ZVb P e A) (ce:P.cellsOf e=A.n) (hn:0<A.n):ZVb P t (Zo A):=by
 intro H enc W fuel cs x h;rcases Go.Deep.open_slice ht h with ⟨rfl,_⟩ | ⟨a,len,cap,m,n,D,Pl,rfl,_,hl,hm,hmm,_,hx⟩
 ·exact⟨[],ZTd A _⟩
 ·rw[ce]at hx;have hlm:len≤m:=by rw[hmm];simp;omega
  by_cases h0:len=0
  ·subst h0;exact⟨[],some a,cap,rfl,hl,hm,.inl rfl⟩
  ·obtain⟨cs0,hc0,_⟩:=hx 0 (by omega);obtain⟨_,hlen0,hcell0⟩:=World.cells?_some hc0;have h00:=hcell0 0 (by omega);rw[List.getElem?_eq_getElem (by omega)]at h00;have hspot:=World.cell?_spot h00;obtain⟨b,off,spot⟩:=a;have hs:spot=none:=by simpa [Addr.add] using hspot
   subst hs;obtain⟨c,T,fr,hg⟩:∃ c T fr,W.heap[b]? = some (.cells c T fr):=by
    rw[ZMa,ZMa]at h00;simp only[World.cell?]at h00;split at h00
    ·rename_i c T fr hg;exact⟨c,T,fr,hg⟩
    ·cases h00
   have key:∀ k,k≤len→∃ l:List α,l.length=k∧A.rels (Zsg W) ((c.toList.drop off).take (k*A.n)) l:=by
    intro k
    induction k with
    | zero=>intro _;exact⟨[],rfl,by rw[Nat.zero_mul,List.take_zero];exact Zjd⟩
    | succ k ih =>
     intro hk;obtain⟨l,hll,hr⟩:=ih (by omega);obtain⟨cs',hc',ht'⟩:=hx k (by omega);rw[ZMa]at hc';have e1:=Zwl hg hc';obtain⟨y,hy⟩:=hA _ _ _ _ _ _ ht';refine⟨l++[y],by simp[hll],?_⟩;have e2:(c.toList.drop off).take ((k+1)*A.n)=(c.toList.drop off).take (k*A.n)++cs':=by
      rw[e1,Nat.succ_mul,List.take_add,List.drop_drop]
     rw[e2];exact ZBc hr ⟨cs',[],by simp,hy,Zjd⟩
   obtain⟨l,hll,hr⟩:=key len (Nat.le_refl _);subst hll;exact⟨l,some ⟨b,off,none⟩,cap,rfl,hl,hm,.inr ⟨b,off,c,T,fr,rfl,hg,hr⟩⟩
theorem ZKk {P:Program} {W:World} {base:Nat} {t e:TypeId} {v:Value} {α:Type} {A:Rep α} (hA:A.agg=false) (ht:P.underlying t=some (.slice e)) (hv:Value.okWide P W .any base t v):v=A.val v.cells.toList:=by
 unfold Rep.val;rw[hA];unfold Value.okWide at hv;rw[ht]at hv;simp only[Cell.okWide,ht]at hv
 cases v <;> first | rfl | (simp[Cell.ok,ht]at hv)
variable {H:Type} {enc:TypeId×Value→H} {P:Program}
theorem Zvi (hl:laidOutB P=true) {W W':World} (hb:Below W.heap.size W W') {sp:Nat→Bool}:∀ {ts:List TypeId} {vs:List Value} {ds:List (DataW H)} {ps:List MemPlace},(∀ t ∈ ts,P.readableRec t=true∧t<P.types.size) →
  DataW.TrodAll enc P W 0 (λ_=>true) true ts vs ds ps→(∀ x ∈ ps,x.block<W.heap.size∧sp x.block=true)→DataW.TrodAll enc P W' 0 sp true ts vs ds ps
 | [],[],[],ps,_,h,_=>h
 | t :: ts,v :: vs,d :: ds,ps,hr,h,hp=>by
  obtain⟨p,q,h1,h2,rfl⟩:=h
  exact⟨p,q,WideElems.Trod_stays hl (hr t (List.mem_cons_self ..)).1 (hr t (List.mem_cons_self ..)).2 h1 (λx hx=>hb.same (hp x (List.mem_append_left _ hx)).1) (λx hx=>(hp x (List.mem_append_left _ hx)).2),
   Zvi hl hb (λt' ht'=>hr t' (List.mem_cons_of_mem _ ht')) h2 (λx hx=>hp x (List.mem_append_right _ hx)),rfl⟩
theorem ZHl {f:Func} {s:ChangeSpec} {apart fresh handsOn again:Bool} {W W':World} {args:Array Value} {ds gs:List (DataW H)} {before:List MemPlace} {tb:TypeId}
  (hl:laidOutB P=true) (hr:∀ t ∈ f.params.toList,P.readableRec t=true∧t<P.types.size) (htb:P.underlying tb=some .bool) (hres:f.resultTypes = #[tb]) (hsv:s.vars=[]) (hsg:(s.fn H (ds++gs)).vars=[])
  (hs1:(s.fn H (ds++gs)).results=[.lit (.bool true)]) (hs2:(s.fn H (ds++gs)).args=ds)
  (hW:DataW.Whole enc P f.params.toList s.vars apart W args.toList ds gs before) (hb:Below W.heap.size W W'):s.post enc P f apart fresh handsOn again W args (.bool true) W':=by
 have hW':=hW;obtain⟨p,q,hA,hV,rfl,hz,hn⟩:=hW;have hlt:∀ x ∈ p++q,x.block<W.heap.size:=λx hx=>hW'.lt x hx;rw[hsv]at hV;obtain⟨rfl,rfl⟩:=trodVars_none hV;have hold:∀ x ∈ p++[],(λb=>decide (b<W.heap.size)) x.block=true:=λx hx=>by simpa using hlt x hx
 have hargs:∀ sp:Nat→Bool,(∀ x ∈ p++[],sp x.block=true)→DataW.TrodAll enc P W' 0 sp true f.params.toList args.toList (s.fn H (ds++[])).args p:=λsp hsp=>by
  rw[hs2];exact Zvi hl hb hr hA (λx hx=>⟨hlt x (List.mem_append_left _ hx),hsp x (List.mem_append_left _ hx)⟩)
 have hvars:∀ sp:Nat→Bool,DataW.TrodVars enc P W' sp s.vars (s.fn H (ds++[])).vars []:=λsp=>by rw[hsv,hsg];rfl
 have hresult:∀ (b:Nat) (sp:Nat→Bool) (hd:Bool),DataW.TrodAll enc P W' b sp hd f.resultTypes.toList ((Value.bool true).resultList f.resultTypes.size) (s.fn H (ds++[])).results []:=λb sp hd=>by
  rw[hres,hs1];exact trodAll_mk1 (shut_bool htb _)
 have hok:∀ (j:Nat) (t:TypeId) (r:Value),f.resultTypes[j]? = some t→((Value.bool true).resultList f.resultTypes.size)[j]? = some r→Value.okWide P W' .any 0 t r:=ok_one hres rfl (okWide_bool_mk htb _);refine⟨ds,[],p++[],[],p,[],hW',hresult _ _ _,hargs _ hold,hvars _,World.keptBut_mono (λx hx=>⟨hx,?_⟩) (hb.frame (· ∈ p++[])),λ_=>?_⟩
 ·simpa using hx
 ·refine⟨hok,_,_,([]++p)++[],⟨[]++p,[],trodAll_append (hargs _ (λ_ _=>rfl)) (hresult _ _ _),hvars _,rfl,?_,?_⟩,?_⟩
  ·intro b off hp;have hin:MemPlace.cell b off ∈ p++[]:=by simpa using hp
   rw[hb.frozen (hlt _ hin)];exact hz b off hin
  ·intro ha;have:=hn ha
   simpa using this
  ·intro x hx _
   simpa using hx
def ok32 (n:Nat):Prop:=(ZE 4294967296 n).length≤137438953472
instance (n:Nat):Decidable (ok32 n):=inferInstanceAs (Decidable (_≤_))
def smQ (x:Rat):Prop:=bl x.num.natAbs≤68719476736∧bl x.den≤68719476736
instance (x:Rat):Decidable (smQ x):=inferInstanceAs (Decidable (_∧_))
def sm32 (n:Nat):Prop:=(ZE 4294967296 n).length≤68719476736
instance (n:Nat):Decidable (sm32 n):=inferInstanceAs (Decidable (_≤_))
def xorI (k:IntKind) (p q:Int):Int:=k.wrap (BitVec.ofInt k.bits p ^^^ BitVec.ofInt k.bits q).toNat
theorem bin_xor {P:Program} {t:TypeId} {k:IntKind} {p q:Int} (w:World):(binOp .xor t (.int k p) (.int k q)).run P w = .ok (.int k (xorI k p q)) w:=by simp[binOp,Op.intBits,xorI]
end Go.Eng
namespace Go.Eng
open Go.MapKept
abbrev MPd:=List (List UInt8×Int)
def mpL (l:List MapEntry) (m:MPd):Prop:=l.map (λe=>(e.key,e.val))=m.map λx=>(Value.string (Zg x.1),Value.int .i64 x.2)
def mpV (m:MPd):List (Value×Value):=m.map λx=>(Value.string (Zg x.1),Value.int .i64 x.2)
def ZH:MPd→List UInt8→Option Int
 | [],_=>none
 | x :: m,s=>if x.1=s then some x.2 else ZH m s
def ZVc (m:Option MPd) (s:List UInt8) (i:Int):Option (Option MPd):=match m with
 | none=>none
 | some m=>match ZH m s with
  | none=>some (some (m++[(s,i)]))
  | some _=>none
theorem ZDl {a b:List UInt8} (h:Zg a=Zg b):a=b:=by
 unfold Zg at h;have:=congrArg ByteArray.data h;exact List.toArray_inj this
theorem Zme (s:List UInt8):∀ (l:List MapEntry) (m:MPd) (i:Nat),mpL l m→∃ r,Instr.findNow .string (.string (Zg s)) l i=some r∧r.map (·.2)=(ZH m s).map (Value.int .i64)
 | [],[],i,_=>⟨none,rfl,rfl⟩
 | [],y :: m,i,h=>by cases h
 | e :: l,[],i,h=>by cases h
 | e :: l,y :: m,i,h=>by
  obtain⟨h1,h2⟩:=List.cons.inj h
  have hk:e.key = .string (Zg y.1):=congrArg Prod.fst h1
  have hv:e.val = .int .i64 y.2:=congrArg Prod.snd h1
  by_cases q:y.1=s
  ·refine⟨some (i,e.val),?_,?_⟩
   ·have:Instr.sameNow .string (.string (Zg s)) e.key=some true:=by
     rw[hk,q];show some (Zg s==Zg s)=some true;exact congrArg some ((bytes_beq _ _).2 rfl)
    simp[Instr.findNow,this]
   ·rw[hv];rw[show ZH (y :: m) s=some y.2 from iP q];rfl
  ·obtain⟨r,e1,e2⟩:=Zme s l m (i+1) h2;refine⟨r,?_,?_⟩
   ·have:Instr.sameNow .string (.string (Zg s)) e.key=some false:=by
     rw[hk];show some (Zg s==Zg y.1)=some false;refine congrArg some (Bool.eq_false_iff.2 λhb=>q (ZDl ((bytes_beq _ _).1 hb)).symm)
    simp[Instr.findNow,this,e1]
   ·rw[e2,show ZH (y :: m) s=ZH m s from iN q]
section
variable {P:Program} {w:World} {mty kt et:TypeId} {r clock:Nat} {es:Array MapEntry} {m:MPd} {s:List UInt8}
theorem Zvd (b:ByteArray):IsKey .string (.string b):=trivial
theorem ZEi (hm:P.underlying mty=some (.map kt et)) (hk:P.underlying kt=some .string) {z0:Int} (hz:(zeroValue et).run P w = .ok (.int .i64 z0) w) (hb:w.heap[r]? = some (.map es clock)) (h:mpL es.toList m):(Instr.lookup mty (.map (some r)) (.string (Zg s)) true).run P w = .ok (.tuple #[.int .i64 ((ZH m s).getD z0),.bool (ZH m s).isSome]) w:=by
 obtain⟨a,e1,e2⟩:=Zme s es.toList m 0 h;unfold Instr.lookup;simp[run_underlying hm,Go.MapKept.run_getObj_map hb,Go.MapKept.run_checkKey hk (Zvd _),Go.MapKept.run_findKey hk e1,Result.andThen]
 cases hg:ZH m s with
 | none =>
  rw[hg]at e2
  cases a with
  | none=>simp[hz,Result.andThen]
  | some p=>cases e2
 | some x =>
  rw[hg]at e2
  cases a with
  | none=>cases e2
  | some p =>
   have:p.2 = .int .i64 x:=Option.some.inj e2;simp[this,Result.andThen]
theorem ZYl {x:Int} (hm:P.underlying mty=some (.map kt et)) (hk:P.underlying kt=some .string) (hb:w.heap[r]? = some (.map es clock)) (h:mpL es.toList m) (hn:ZH m s=none):∃ es' c',(Instr.mapUpdate mty (.map (some r)) (.string (Zg s)) (.int .i64 x)).run P w = .ok () { w with heap:=w.heap.setIfInBounds r (.map es' c') }∧mpL es'.toList (m++[(s,x)]):=by
 obtain⟨a,e1,e2⟩:=Zme s es.toList m 0 h;rw[hn]at e2;obtain rfl:a=none:=by cases a with
  | none=>rfl
  | some p=>cases e2
 refine⟨es.push { key:=.string (Zg s),val:=.int .i64 x,born:=clock },clock+1,?_,?_⟩
 ·unfold Instr.mapUpdate;simp[run_underlying hm,Go.MapKept.run_getObj_map hb,Go.MapKept.run_checkKey hk (Zvd _),Go.MapKept.run_findKey hk e1,Go.MapKept.run_setObj_map _ hb,Result.andThen]
 ·unfold mpL at h ⊢;simp[h]
def rMp:Rep (Option MPd) where
 n:=1
 agg:=false
 rel v cs x:=match x with
  | none=>cs=[.map none]
  | some m=>∃ r es c,cs=[.map (some r)]∧v r=some (.map es c)∧mpL es.toList m∧∀ x,x ∈ m→inR .i64 x.2
 len {v cs x} h:=by
  cases x with
  | none=>rw[show cs=[.map none] from h];rfl
  | some m=>obtain⟨r,es,c,rfl,_⟩:=h;rfl
 mono {v v' cs x} hv h:=by
  cases x with
  | none=>exact h
  | some m=>obtain⟨r,es,c,h1,h2,h3⟩:=h;exact⟨r,es,c,h1,hv _ _ h2,h3⟩
 flat {v cs x} h:=by
  cases x with
  | none=>rw[show cs=[.map none] from h];rfl
  | some m=>obtain⟨r,es,c,rfl,_⟩:=h;rfl
def Zh (x:Option MPd) (s:List UInt8):Option Int:=match x with
 | none=>none
 | some m=>ZH m s
theorem Zrm {w w':World} {e:Loc} (h:e.holds w) (same:∀ b,e.blk=some b→w'.heap[b]? = w.heap[b]?):e.holds w':=by
 cases e with
 | box b T cs=>show _=_;rw[same b rfl];exact h
 | own b T sz n cap cs =>
  cases b with
  | none=>exact h
  | some b=>obtain⟨h1,c,h2,h3⟩:=h;exact⟨h1,c,by rw[same b rfl];exact h2,h3⟩
 | mp b l=>obtain⟨es,c,h1,h2⟩:=h;exact⟨es,c,by rw[same b rfl];exact h1,h2⟩
theorem St.setMap {K:Nat} {w0:Base} {v0:Za} {σ:List (Nat×Value)} {ℓ:List Loc} {v:Za} {a:Act} {w:World} {b:Nat} {l l':List (Value×Value)} {es':Array MapEntry} {c':Nat} (h:St K w0 v0 σ (.mp b l :: ℓ) v a w) (hl:es'.toList.map (λe=>(e.key,e.val))=l') :
  St K w0 v0 σ (.mp b l' :: ℓ) v a { w with heap:=w.heap.setIfInBounds b (.map es' c') }:=by
 obtain⟨⟨es,c,h1,h2⟩,h3⟩:=h.loc _ List.mem_cons_self;obtain⟨h4,h5⟩:=h3 b rfl;have hs:=Go.MapKept.heap_set (o':=.map es' c') h1;have nd:=h.nd;have nb:∀ e ∈ ℓ,∀ b',e.blk=some b'→b'≠b:=by
  intro e he b' hb' hbb;subst hbb;exact (List.nodup_cons.1 nd).1 (List.mem_filterMap.2 ⟨e,he,hb'⟩)
 refine⟨h.size,h.dfr,h.fr,⟨h.ext.os,h.ext.tape,h.ext.output,by simpa using h.ext.size,λk hk hn=>?_⟩,⟨h.vst.le,λk o hk=>?_,h.vst.old⟩,λe he=>?_,nd⟩
 ·have hkb:k≠b:=by
   rintro rfl;rcases h4 with h' | h'
   ·omega
   ·exact hn h'
  exact (hs.2 k hkb).trans (h.ext.block k hk hn)
 ·have hkb:k≠b:=by
   rintro rfl;rw[h5]at hk;cases hk
  exact (hs.2 k hkb).trans (h.vin k o hk)
 ·rcases List.mem_cons.1 he with rfl | he
  ·exact⟨⟨es',c',hs.1,hl⟩,h3⟩
  ·obtain⟨q1,q2⟩:=h.loc e (List.mem_cons_of_mem _ he);exact⟨Zrm q1 λb' hb'=>hs.2 b' (nb e he b' hb'),q2⟩
theorem ZAh (hm:P.underlying mty=some (.map kt et)) (hk:P.underlying kt=some .string) {z0:Int} (hz:(zeroValue et).run P w = .ok (.int .i64 z0) w):(Instr.lookup mty (.map none) (.string (Zg s)) true).run P w = .ok (.tuple #[.int .i64 z0,.bool false]) w:=by
 unfold Instr.lookup;have e1:Instr.findNow .string (.string (Zg s)) ([]:List MapEntry) 0=some none:=rfl;simp[run_underlying hm,Go.MapKept.run_checkKey hk (Zvd _),Go.MapKept.run_findKey hk e1,hz,Result.andThen]
theorem Znl {v:Za} {x:Value} {y:Option MPd} (hm:P.underlying mty=some (.map kt et)) (hk:P.underlying kt=some .string) {z0:Int} (hz:(zeroValue et).run P w = .ok (.int .i64 z0) w) (hv:VIn v w) (h:rMp.rel v [x] y):(Instr.lookup mty x (.string (Zg s)) true).run P w = .ok (.tuple #[.int .i64 ((Zh y s).getD z0),.bool (Zh y s).isSome]) w:=by
 cases y with
 | none =>
  obtain rfl:x = .map none:=by have:=List.cons.inj (show [x]=[.map none] from h);exact this.1
  exact ZAh hm hk hz
 | some m =>
  obtain⟨r,es,c,h1,h2,h3,_⟩:=h;obtain rfl:x = .map (some r):=(List.cons.inj h1).1;exact ZEi hm hk hz (hv _ _ h2) h3
theorem Z5g (hm:P.underlying mty=some (.map kt et)) (hk:P.underlying kt=some .string) {z0:Int} (hz:(zeroValue et).run P w = .ok (.int .i64 z0) w) (hb:w.heap[r]? = some (.map es clock)) (h:mpL es.toList m):(Instr.lookup mty (.map (some r)) (.string (Zg s)) false).run P w = .ok (.int .i64 ((ZH m s).getD z0)) w:=by
 obtain⟨a,e1,e2⟩:=Zme s es.toList m 0 h;unfold Instr.lookup;simp[run_underlying hm,Go.MapKept.run_getObj_map hb,Go.MapKept.run_checkKey hk (Zvd _),Go.MapKept.run_findKey hk e1,Result.andThen]
 cases hg:ZH m s with
 | none =>
  rw[hg]at e2
  cases a with
  | none=>simp[hz,Result.andThen]
  | some p=>cases e2
 | some x =>
  rw[hg]at e2
  cases a with
  | none=>cases e2
  | some p =>
   have:p.2 = .int .i64 x:=Option.some.inj e2;simp[this,Result.andThen]
theorem ZCi (hm:P.underlying mty=some (.map kt et)) (hk:P.underlying kt=some .string) {z0:Int} (hz:(zeroValue et).run P w = .ok (.int .i64 z0) w):(Instr.lookup mty (.map none) (.string (Zg s)) false).run P w = .ok (.int .i64 z0) w:=by
 unfold Instr.lookup;have e1:Instr.findNow .string (.string (Zg s)) ([]:List MapEntry) 0=some none:=rfl;simp[run_underlying hm,Go.MapKept.run_checkKey hk (Zvd _),Go.MapKept.run_findKey hk e1,hz,Result.andThen]
theorem ZPl {v:Za} {x:Value} {y:Option MPd} (hm:P.underlying mty=some (.map kt et)) (hk:P.underlying kt=some .string) {z0:Int} (hz:(zeroValue et).run P w = .ok (.int .i64 z0) w) (hv:VIn v w) (h:rMp.rel v [x] y):(Instr.lookup mty x (.string (Zg s)) false).run P w = .ok (.int .i64 ((Zh y s).getD z0)) w:=by
 cases y with
 | none =>
  obtain rfl:x = .map none:=by have:=List.cons.inj (show [x]=[.map none] from h);exact this.1
  exact ZCi hm hk hz
 | some m =>
  obtain⟨r,es,c,h1,h2,h3,_⟩:=h;obtain rfl:x = .map (some r):=(List.cons.inj h1).1;exact Z5g hm hk hz (hv _ _ h2) h3
theorem ZDf:∀ {m:MPd} {s:List UInt8} {x:Int},ZH m s=some x→∃ y ∈ m,y.2=x
 | [],s,x,h=>by cases h
 | y :: m,s,x,h=>by
  unfold ZH at h
  by_cases e:y.1=s
  ·rw[iP e]at h
   exact⟨y,.head _,Option.some.inj h⟩
  ·rw[iN e]at h
   obtain⟨z,hz,h2⟩:=ZDf h
   exact⟨z,.tail _ hz,h2⟩
theorem ZTh {v:Za} {cs:List Value} {y:Option MPd} (h:rMp.rel v cs y) (s:List UInt8) {z0:Int} (h0:inR .i64 z0):inR .i64 ((Zh y s).getD z0):=by
 cases y with
 | none=>exact h0
 | some m =>
  obtain⟨r,es,c,_,_,_,h4⟩:=h;show inR .i64 ((ZH m s).getD z0)
  cases e:ZH m s with
  | none=>exact h0
  | some x =>
   obtain⟨z,hz,h2⟩:=ZDf e;show inR .i64 x;rw[← h2];exact h4 z hz
end
end Go.Eng
namespace Go.Eng
open Go.RowKit
inductive T where
 | int (k:IntKind) | bool | flt (k:FloatKind) | str
 | one (a:T) | pair (a b:T) | slice (a:T) | leaf (i:Nat) | ptr (a:T)
def Zlg:Nat→Type
 | 0=>Nat
 | 1=>Nat
 | 2=>Int
 | 3=>Rat
 | 4=>Rat
 | 5=>Option MPd
 | _=>Unit
def rUnit:Rep Unit where
 n:=1
 agg:=false
 rel _ cs _:=∃ y,cs=[y]∧plain y=true
 len h:=by obtain⟨y,rfl,_⟩:=h;rfl
 mono _ h:=h
 flat h:=by obtain⟨y,rfl,h⟩:=h;simp[h]
def Zpg:(i:Nat)→Rep (Zlg i)
 | 0=>Zoa
 | 1=>Z5
 | 2=>ZRa
 | 3=>rRat
 | 4=>rQ
 | 5=>rMp
 | _+6=>rUnit
def T.den:T→Type
 | .int _=>Int
 | .bool=>Bool
 | .flt _=>Nat
 | .str=>List UInt8
 | .one a=>a.den
 | .pair a b=>a.den×b.den
 | .slice a=>List a.den
 | .ptr a=>a.den
 | .leaf i=>Zlg i
def T.rep:(t:T)→Rep t.den
 | .int k=>Zs k
 | .bool=>ZQc
 | .flt k=>rFloat k
 | .str=>ZGa
 | .one a=>rOne a.rep
 | .pair a b=>ZI a.rep b.rep
 | .slice a=>Zo a.rep
 | .ptr a=>rPtr a.rep
 | .leaf i=>Zpg i
def T.n:T→Nat
 | .one a=>a.n
 | .pair a b=>a.n+b.n
 | .leaf 2=>2
 | .leaf 3=>3
 | .leaf 4=>3
 | _=>1
def T.agg:T→Bool
 | .one _=>true
 | .pair _ _=>true
 | .leaf 2=>true
 | .leaf 3=>true
 | .leaf 4=>true
 | _=>false
def kEq:IntKind→IntKind→Bool
 | .i8,.i8 | .i16,.i16 | .i32,.i32 | .i64,.i64 | .u8,.u8 | .u16,.u16 | .u32,.u32 | .u64,.u64=>true
 | _,_=>false
theorem ZJa {k k':IntKind} (h:kEq k k'=true):k=k':=by cases k <;> cases k' <;> first | rfl | cases h
def fEqK:FloatKind→FloatKind→Bool
 | .f32,.f32 | .f64,.f64=>true
 | _,_=>false
theorem Zgi {k k':FloatKind} (h:fEqK k k'=true):k=k':=by cases k <;> cases k' <;> first | rfl | cases h
def T.beq:T→T→Bool
 | .int k,.int k'=>kEq k k'
 | .bool,.bool=>true
 | .flt k,.flt k'=>fEqK k k'
 | .str,.str=>true
 | .one a,.one b=>T.beq a b
 | .pair a b,.pair c d=>match T.beq a c with | true=>T.beq b d | false=>false
 | .slice a,.slice b=>T.beq a b
 | .ptr a,.ptr b=>T.beq a b
 | .leaf i,.leaf j=>Nat.beq i j
 | _,_=>false
theorem T.beq_eq:∀ {s t:T},T.beq s t=true→s=t:=by
 intro s
 induction s with
 | int k=>intro t h;cases t <;> simp only[T.beq]at h <;> first | (cases h;done) | (rw[ZJa h])
 | bool=>intro t h;cases t <;> simp only[T.beq]at h <;> first | rfl | cases h
 | flt k=>intro t h;cases t <;> simp only[T.beq]at h <;> first | (cases h;done) | (rw[Zgi h])
 | str=>intro t h;cases t <;> simp only[T.beq]at h <;> first | rfl | cases h
 | one a ih=>intro t h;cases t <;> simp only[T.beq]at h <;> first | (cases h;done) | (rw[ih h])
 | pair a b ia ib =>
  intro t h
  cases t <;> simp only[T.beq]at h
  all_goals first | (cases h;done) | skip
  rename_i c d
  cases hac:T.beq a c
  ·rw[hac]at h;cases h
  ·rw[hac]at h;rw[ia hac,ib h]
 | slice a ih=>intro t h;cases t <;> simp only[T.beq]at h <;> first | (cases h;done) | (rw[ih h])
 | leaf i=>intro t h;cases t <;> simp only[T.beq]at h <;> first | (cases h;done) | (rw[eQ h])
 | ptr a ih=>intro t h;cases t <;> simp only[T.beq]at h <;> first | (cases h;done) | (rw[ih h])
def T.castB (s t:T):(b:Bool)→(T.beq s t=b)→s.den→Option t.den
 | true,h,x=>some (T.beq_eq h ▸ x)
 | false,_,_=>none
def T.cast (s t:T) (x:s.den):Option t.den:=T.castB s t (T.beq s t) rfl x
def Zk:List T→Type
 | []=>Unit
 | [t]=>t.den
 | t :: u :: r=>t.den×Zk (u :: r)
inductive V where
 | data (t:T) (x:t.den)
 | nilS
 | own (u:Nat)
 | row (u i hv cv:Nat) (t:T) (r:List t.den)
 | ptr (u off:Nat)
 | el (u i cv:Nat) (t:T) (x:t.den) (off:Nat)
 | rp (u i hv cv:Nat) (t:T) (r:List t.den)
 | rel (u i j hv cv:Nat) (t:T) (r:List t.den) (x:t.den) (off:Nat)
 | vp (t:T) (x:t.den) (off:Nat)
 | nl
 | cons (a b:V)
 | agg (c:V)
 | tup (c:V)
 | fn (f:Nat) (c:V)
 | ifc (ty:TypeId) (c:V)
 | undef
inductive Mid where
 | hol (i:Nat)
 | swp (i j:Nat)
inductive LV where
 | box (ty:TypeId) (c:V)
 | own (ty:TypeId) (t:T) (l:List t.den) (fz:Bool)
 | mat (ty ty2:TypeId) (t:T) (m:List (List t.den)) (hv:Nat)
 | mid (ty ty2:TypeId) (t:T) (m:List (List t.den)) (hv:Nat) (s:Mid)
 | mp (m:Option MPd)
inductive Ev (ρ:Type):Type 1 where
 | fail
 | done (r:ρ)
 | rdS (t:Nat) (k:V→Ev ρ)
 | rdL (u:Nat) (k:Nat→LV→Ev ρ)
 | wrS (t:Nat) (x:V) (e:Ev ρ)
 | wrL (u:Nat) (L:LV) (e:Ev ρ)
 | new (u:Nat) (L:LV) (e:Ev ρ)
 | del (u:Nat) (e:Ev ρ)
 | bind {β:Type} (x:Option β) (k:β→Ev ρ)
 | test (t:Nat) (e1 e2:Ev ρ)
 | alt (b:Bool) (e1 e2:Ev ρ)
structure En (β:Type) where
 k:Nat
 st:Nat
 x:β
def lkE {β:Type}:List (En β)→Nat→Option (En β)
 | [],_=>none
 | p :: r,t=>match Nat.beq p.k t with
  | true=>some p
  | false=>lkE r t
def era {β:Type}:List (En β)→Nat→List (En β)
 | [],_=>[]
 | p :: r,t=>match Nat.beq p.k t with
  | true=>r
  | false=>p :: era r t
def Zr {β:Type}:List (Nat×β)→Nat→Option β
 | [],_=>none
 | p :: r,t=>match Nat.beq p.1 t with
  | true=>some p.2
  | false=>Zr r t
abbrev Fr:=List (En V)
abbrev Lo:=List (En LV)
def ZB:List Nat→Nat→Bool
 | [],_=>false
 | k :: r,t=>match Nat.beq k t with
  | true=>true
  | false=>ZB r t
def ZL {ρ α:Type} (n:Nat):Ev ρ→Fr→Lo→(ρ→Fr→Lo→Option α)→Option α
 | .fail,_,_,_=>none
 | .done r,f,l,K=>K r f l
 | .rdS t k,f,l,K=>match lkE f t with
  | some x=>ZL n (k x.x) f l K
  | none=>none
 | .rdL u k,f,l,K=>match lkE l u with
  | some x=>ZL n (k x.st x.x) f l K
  | none=>none
 | .wrS t x e,f,l,K=>ZL n e (⟨t,n,x⟩ :: f) l K
 | .wrL u L e,f,l,K=>ZL n e f (⟨u,n,L⟩ :: era l u) K
 | .new u L e,f,l,K=>match lkE l u with
  | none=>ZL n e f (⟨u,n,L⟩ :: l) K
  | some _=>none
 | .del u e,f,l,K=>ZL n e f (era l u) K
 | .bind x k,f,l,K=>bnd x λy=>ZL n (k y) f l K
 | .test t e1 e2,f,l,K=>match lkE f t with
  | some ⟨_,s,.data .bool b⟩=>ifb b (ZL n e1 (⟨t,s,.data .bool true⟩ :: f) l K) (ZL n e2 (⟨t,s,.data .bool false⟩ :: f) l K)
  | _=>none
 | .alt b e1 e2,f,l,K=>ifb b (ZL n e1 f l K) (ZL n e2 f l K)
def V.size:V→Nat
 | .data t _=>t.n
 | .nl=>0
 | .cons a b=>a.size+b.size
 | .agg c=>c.size
 | _=>1
def V.isAgg:V→Bool
 | .data t _=>t.agg
 | .agg _=>true
 | _=>false
def ZSd:(t:T)→t.den→V
 | .pair a b,x=>.cons (.data a x.1) (ZSd b x.2)
 | t,x=>.cons (.data t x) .nl
def ZKb (t:T) (x:t.den):Option V:=match t,x with
 | .pair a b,x=>some (ZSd (.pair a b) x)
 | .one a,x=>some (.cons (.data a x) .nl)
 | .leaf 2,(i:Int)=>some (.cons (.data .bool (decide (i<0))) (.cons (.data (.leaf 0) i.natAbs) .nl))
 | .leaf 3,(q:Rat)=>some (.cons (.data (.leaf 2) q.num) (.cons (.data (.leaf 0) (denR q.den)) .nl))
 | .leaf 4,(q:Rat)=>some (.cons (.data .bool (decide (q.num<0))) (.cons (.data (.leaf 1) q.num.natAbs) (.cons (.data (.leaf 1) q.den) .nl)))
 | _,_=>none
def Zua (t:T) (x:t.den):Option V:=match t,x with
 | .pair a b,x=>some (.cons (.data a x.1) (.cons (.data b x.2) .nl))
 | t,x=>ZKb t x
def eqB (a b:Bool):Bool:=match a,b with
 | true,true=>true
 | false,false=>true
 | _,_=>false
def ZA:Nat→V→Nat→Nat→Bool→Option V
 | 0,_,_,_,_=>none
 | g+1,v,off,n,ag=>match v with
  | .nl=>none
  | .cons a b=>match Nat.ble (off+n) a.size with
   | true=>ZA g a off n ag
   | false=>match Nat.ble a.size off with
    | true=>ZA g b (off-a.size) n ag
    | false=>none
  | v=>match Nat.beq off 0,Nat.beq v.size n,eqB v.isAgg ag with
   | true,true,true=>some v
   | _,_,_=>match v with
    | .agg c=>ZA g c off n ag
    | .data t x=>match Zua t x with
     | some c=>ZA g c off n ag
     | none=>none
    | _=>none
def Z0:Nat→V→Nat→V→Option V
 | 0,_,_,_=>none
 | g+1,v,off,z=>match v with
  | .nl=>none
  | .cons a b=>match Nat.ble (off+z.size) a.size with
   | true=>match Z0 g a off z with
    | some a'=>some (.cons a' b)
    | none=>none
   | false=>match Nat.ble a.size off with
    | true=>match Z0 g b (off-a.size) z with
     | some b'=>some (.cons a b')
     | none=>none
    | false=>none
  | v=>match Nat.beq off 0,Nat.beq v.size z.size,eqB v.isAgg z.isAgg with
   | true,true,true=>some z
   | _,_,_=>match v with
    | .agg c=>match Z0 g c off z with
     | some c'=>some (.agg c')
     | none=>none
    | .data t x=>match Zua t x with
     | some c=>match Z0 g c off z with
      | some c'=>some (.agg c')
      | none=>none
     | none=>none
    | _=>none
def FU:Nat:=40
def cvtQ (s t:T) (x:s.den):Option t.den:=match T.cast s t x with
 | some y=>some y
 | none=>match T.cast s (.pair .bool (.pair (.leaf 1) (.leaf 1))) x with
  | some r=>match Z8d (Prod.fst r) (Prod.fst (Prod.snd r)) (Prod.snd (Prod.snd r)) with
   | some q=>T.cast (.leaf 4) t q
   | none=>none
  | none=>none
def both2 {α β:Type}:Option α→Option β→Option (α×β)
 | some y,some z=>some (y,z)
 | _,_=>none
def cvt:(s t:T)→s.den→Option t.den
 | .pair a b,t,x=>match t with
  | .pair c d=>both2 (cvt a c x.1) (cvt b d x.2)
  | t=>cvtQ (.pair a b) t x
 | s,t,x=>cvtQ s t x
def cvtL (s t:T):List s.den→Option (List t.den)
 | []=>some []
 | x :: r=>match cvt s t x,cvtL s t r with
  | some y,some z=>some (y :: z)
  | _,_=>none
def conv {ρ:Type}:Nat→(t:T)→V→(t.den→Ev ρ)→Ev ρ
 | 0,_,_,_=>.fail
 | g+1,t,v,k=>match v with
  | .data s x=>match T.cast s t x with
   | some y=>k y
   | none=>match s,t,x,k with
    | .leaf 0,.slice (.int .u64),(n:Nat),k=>k (ZE 18446744073709551616 n)
    | .leaf 1,.slice (.int .u32),(n:Nat),k=>k (ZE 4294967296 n)
    | .slice (.int .u64),.leaf 0,(l:List Int),k=>.bind (clo l) k
    | .slice (.int .u32),.leaf 1,(l:List Int),k=>.bind (Zve l) k
    | .slice a,.slice b,(l:List a.den),k=>.bind (cvtL a b l) k
    | s,t,x,k=>match ZKb s x with
     | some c=>conv g t (.agg c) k
     | none=>.fail
  | .nilS=>match t,k with
   | .slice _,k=>k []
   | .leaf 0,k=>k (0:Nat)
   | .leaf 1,k=>k (0:Nat)
   | _,_=>.fail
  | .own u=>.rdL u λ_ L=>match L with
   | .own _ s l true=>conv g t (.data (.slice s) l) k
   | .own ty s l false=>.wrL u (.own ty s l true) (conv g t (.data (.slice s) l) k)
   | .mat ty _ s m _=>.wrL u (.own ty (.slice s) m true) (conv g t (.data (.slice (.slice s)) m) k)
   | .box _ _=>.fail
   | .mid _ _ _ _ _ _=>.fail
   | .mp m=>match t,k with
    | .leaf 5,k=>.del u (k (m:Option MPd))
    | _,_=>.fail
  | .agg (.cons v (.cons v' r))=>match t,r,k with
   | .leaf 2,.nl,k=>conv g .bool v λ(s:Bool)=>conv g (.leaf 0) v' λ(n:Nat)=>.bind (cloI s n) k
   | .leaf 3,.nl,k=>conv g (.leaf 2) v λ(i:Int)=>conv g (.leaf 0) v' λ(n:Nat)=>.bind (cloQ i n) k
   | .leaf 4,.cons v'' .nl,k=>conv g .bool v λ(s:Bool)=>conv g (.leaf 1) v' λ(n:Nat)=>conv g (.leaf 1) v'' λ(d:Nat)=>.bind (Z8d s n d) k
   | .pair a b,.nl,k=>conv g a v λx=>conv g b v' λy=>k (x,y)
   | .pair a b,r,k=>conv g a v λx=>conv g b (.agg (.cons v' r)) λy=>k (x,y)
   | _,_,_=>.fail
  | .agg (.cons v .nl)=>match t,k with
   | .one a,k=>conv g a v k
   | _,_=>.fail
  | .ptr u 0=>match t,k with
   | .ptr a,k=>.rdL u λ_ L=>match L with
    | .box _ c=>conv g a c λy=>.rdL u λ_ L2=>match L2 with
     | .box _ _=>.del u (k y)
     | _=>.fail
    | _=>.fail
   | .leaf 6,k=>k ()
   | _,_=>.fail
  | _=>.fail
def inN (i n:Nat):Option Unit:=if i<n then some () else none
variable {P:Program} {K:Nat} {w0:Base} {v0:Za} {σ:List (Nat×Value)} {ℓ:List Loc} {v:Za} {a:Act} {w:World}
def Zfb (l:List UInt8):List Int:=l.map λb=>(b.toNat:Int)
theorem Zmf (l:List UInt8):(Zfb l).length=l.length:=by simp[Zfb]
theorem Zuj (v:Za):∀ l:List UInt8,Rep.rels (Zs .u8) v (l.map λb=>Value.int .u8 b.toNat) (Zfb l)
 | []=>rfl
 | b :: l=>⟨[.int .u8 b.toNat],l.map λb=>Value.int .u8 b.toNat,rfl,⟨rfl,Zci b⟩,Zuj v l⟩
theorem St.newView (h:St K w0 v0 σ ℓ v a w) {w':World} {o:Obj} (hx:Ext w w') (hg:w'.heap[w.heap.size]? = some o):
  ∃ v',v.le v'∧v' w.heap.size=some o∧St K w0 v0 σ ℓ v' a w':=by
 have hn:=h.vin.none (Nat.le_refl w.heap.size);refine⟨λk=>if k=w.heap.size then some o else v k,λk x hk=>?_,by simp,h.step hx ⟨λk x hk=>?_,λk x hk=>?_,λk hk=>?_⟩⟩
 ·have:k≠w.heap.size:=λe=>by subst e;rw[hn]at hk;cases hk
  simp[this,hk]
 ·have:k≠w.heap.size:=λe=>by subst e;rw[hn]at hk;cases hk
  simp[this,hk]
 ·by_cases he:k=w.heap.size
  ·subst he;simp at hk;subst hk;exact hg
  ·simp[he]at hk;exact hx.get (h.vin _ _ hk)
 ·have:k≠w.heap.size:=by omega
  simp[this]
theorem Zhk (hS:St K w0 v0 σ ℓ v a w) {src dst e:TypeId} (l:List UInt8) (hs:P.underlying src=some .string) (hd:P.underlying dst=some (.slice e)) (he:P.underlying e=some (.int .u8)) (hl:l.length≤maxLen) :
  ∃ q k v' w',(∀ {d:Option Nat} {ty:TypeId} {pos:String} {aft:Array Edge} {g:Option (Nat×Bool)} {x:Operand},ev σ x=some (.string (Zg l))→(execOp a.eval ⟨d,.convert src dst x,ty,pos,aft,g⟩).run P w = .ok (.value (.slice q l.length k)) w') ∧
   v.le v'∧St K w0 v0 σ ℓ v' a w'∧(Zo (Zs .u8)).rel v' [.slice q l.length k] (Zfb l):=by
 have hsz:=Zxb l;have hr:=run_bytes_of_string (P:=P) w src dst e (Zg l) hs hd he;rw[hsz]at hr;have hb:(bytesRow (Zg l) (grownCap w l.length 0 e)).toList.take l.length=l.map λb=>Value.int .u8 b.toNat:=by
  simp[bytesRow,Zg]
 have hx:Ext w (w.drew.alloc (.cells (bytesRow (Zg l) (grownCap w l.length 0 e)) e ((bytesRow (Zg l) (grownCap w l.length 0 e)).size,(bytesRow (Zg l) (grownCap w l.length 0 e)).size+1))):=(Ext.drew w).trans (Ext.alloc _ _);obtain⟨v',h1,h2,h3⟩:=hS.newView hx (heap_alloc_new w.drew _);refine⟨some ⟨w.heap.size,0,none⟩,grownCap w l.length 0 e,v',_,λ{d ty pos aft g x} ex=>?_,h1,h3,some ⟨w.heap.size,0,none⟩,_,by rw[Zmf],by rw[Zmf];exact grownCap_ge _ _ _ _,grownCap_le_maxLen _ _ _ _ hl,.inr ⟨w.heap.size,0,_,_,_,rfl,h2,?_⟩⟩
 ·simp[execOp,hS.eval ex,hr]
 ·rw[Zmf,List.drop_zero,show (Zs .u8).n=1 from rfl,Nat.mul_one,hb];exact Zuj v' l
end Go.Eng
namespace Go.Eng
open Go.RowKit
structure Con where
 args:List T
 res:List T
 F:Zk args→Option (Zk res)
structure ConO where
 args:List T
 ty:TypeId
 t:T
 F:Zk args→Option (List t.den)
structure ConM where
 args:List T
 ty:TypeId
 ty2:TypeId
 t:T
 F:Zk args→Option (List (List t.den))
structure ConI where
 ty:TypeId
 t:T
 F:List t.den→Int→t.den→Option (List t.den)
inductive CT where
 | dat (t:T)
 | own (ty:TypeId) (t:T)
 | mat (ty ty2:TypeId) (t:T)
 | nl
 | one (a:CT)
 | cons (a b:CT)
 | agg (c:CT)
 | box (ty:TypeId) (c:CT)
 | mp
def CT.den:CT→Type
 | .dat t=>t.den
 | .own _ t=>List t.den
 | .mat _ _ t=>List (List t.den)
 | .nl=>Unit
 | .one a=>a.den
 | .cons a b=>a.den×b.den
 | .agg c=>c.den
 | .box _ c=>c.den
 | .mp=>Option MPd
structure ConB where
 ty:TypeId
 c:CT
 args:List T
 res:List T
 F:c.den→Zk args→Option (c.den×Zk res)
structure ConD where
 ty:TypeId
 t:T
 F:List t.den→Int→Int→Option (List t.den)
structure ConP where
 args:List T
 ty:TypeId
 t:T
 res:List T
 F:Zk args→Option (List t.den×Zk res)
structure ConS where
 ty:TypeId
 t:T
 args:List T
 res:List T
 F:List t.den→Zk args→Option (List t.den×Zk res)
structure Ex where
 pows:List (FuncId×ConP):=[]
 omats:List (FuncId×ConM):=[]
 boxs:List (FuncId×ConB):=[]
 dels:List (FuncId×ConD):=[]
 sls:List (FuncId×ConS):=[]
structure Cf where
 P:Program
 leafs:List (TypeId×Nat)
 cons:List (FuncId×Con)
 mats:List Nat
 owns:List (FuncId×ConO)
 ins:List (FuncId×ConI)
 meths:List ((TypeId×String)×FuncId)
 ex:Ex:={}
abbrev Cf.omats (C:Cf):=C.ex.omats
abbrev Cf.boxs (C:Cf):=C.ex.boxs
abbrev Cf.dels (C:Cf):=C.ex.dels
abbrev Cf.sls (C:Cf):=C.ex.sls
abbrev Cf.pows (C:Cf):=C.ex.pows
def lkM:List ((TypeId×String)×FuncId)→TypeId→String→Option FuncId
 | [],_,_=>none
 | p :: r,t,m=>match Nat.beq p.1.1 t,p.1.2==m with
  | true,true=>some p.2
  | _,_=>lkM r t m
def codeF (f:TypeId→Option T):TypeId→List Field→Option T
 | t,[]=>f t
 | t,h :: r=>match f t,codeF f h.type r with
  | some a,some b=>some (.pair a b)
  | _,_=>none
def ZC (a:T):Nat→T
 | 0=>.one a
 | 1=>.one a
 | 2=>.pair a a
 | k+3=>.pair a (ZC a (k+2))
def Z2 (a:T):(n:Nat)→(ZC a n).den→List a.den
 | 0,_=>[]
 | 1,x=>[x]
 | 2,x=>[x.1,x.2]
 | k+3,x=>x.1 :: Z2 a (k+2) x.2
def ZYa (C:Cf):Nat→TypeId→Option T
 | 0,_=>none
 | g+1,t=>match Zr C.leafs t with
  | some i=>some (.leaf i)
  | none=>match C.P.underlying t with
   | some (.int k)=>some (.int k)
   | some .bool=>some .bool
   | some (.float k)=>some (.flt k)
   | some .string=>some .str
   | some (.slice e)=>match ZYa C g e with
    | some a=>some (.slice a)
    | none=>none
   | some (.array n e)=>match ZYa C g e,Nat.blt 0 n with
    | some a,true=>some (ZC a n)
    | _,_=>none
   | some (.struct fs)=>match fs.toList with
    | []=>none
    | [f]=>match ZYa C g f.type with
     | some a=>some (.one a)
     | none=>none
    | f :: h :: r=>codeF (ZYa C g) f.type (h :: r)
   | _=>none
def zeroLf:(i:Nat)→Option (Zlg i)
 | 0=>some (0:Nat)
 | 1=>some (0:Nat)
 | 2=>some (0:Int)
 | 3=>some (0:Rat)
 | 5=>some (none:Option MPd)
 | _=>none
def arrS (a:T):(n:Nat)→(ZC a n).den→Nat→a.den→(ZC a n).den
 | 0,x,_,_=>x
 | 1,x,i,y=>match i with
  | 0=>y
  | _+1=>x
 | 2,x,i,y=>match i with
  | 0=>(y,x.2)
  | 1=>(x.1,y)
  | _+2=>x
 | k+3,x,i,y=>match i with
  | 0=>(y,x.2)
  | i+1=>(x.1,arrS a (k+2) x.2 i y)
def Zuc:(t:T)→Option t.den
 | .int _=>some (0:Int)
 | .bool=>some false
 | .flt _=>some (0:Nat)
 | .str=>some ([]:List UInt8)
 | .one a=>Zuc a
 | .pair a b=>match Zuc a,Zuc b with
  | some x,some y=>some (x,y)
  | _,_=>none
 | .slice _=>some []
 | .leaf i=>zeroLf i
 | .ptr _=>none
def zSl:List Value→Option (List Value)
 | .slice none 0 0 :: r=>some r
 | _=>none
def zOK:T→List Value→Option (List Value)
 | .int k,.int k' n :: r=>match kEq k k',n with
  | true,.ofNat 0=>some r
  | _,_=>none
 | .bool,.bool false :: r=>some r
 | .flt k,.float k' 0 :: r=>match fEqK k k' with
  | true=>some r
  | false=>none
 | .str,.string s :: r=>match s.data.toList with
  | []=>some r
  | _=>none
 | .one a,cs=>zOK a cs
 | .pair a b,cs=>match zOK a cs with
  | some r=>zOK b r
  | none=>none
 | .leaf 5,.map none :: r=>some r
 | .slice _,cs=>zSl cs
 | .leaf 0,cs=>zSl cs
 | .leaf 1,cs=>zSl cs
 | .leaf 2,.bool false :: cs=>zSl cs
 | .leaf 3,.bool false :: cs=>match zSl cs with
  | some r=>zSl r
  | none=>none
 | _,_=>none
def Zrc (t:T) (cs:List Value):Option (V×List Value):=match Zuc t,zOK t cs with
 | some x,some r=>some (.data t x,r)
 | _,_=>none
def Zre (f:TypeId→List Value→Option (V×List Value)):List Field→List Value→Option (V×List Value)
 | [],cs=>some (.nl,cs)
 | h :: r,cs=>match f h.type cs with
  | some (v,cs)=>match Zre f r cs with
   | some (c,cs)=>some (.cons v c,cs)
   | none=>none
  | none=>none
def zRep (f:List Value→Option (V×List Value)):Nat→List Value→Option (V×List Value)
 | 0,cs=>some (.nl,cs)
 | k+1,cs=>match f cs with
  | some (v,cs)=>match zRep f k cs with
   | some (c,cs)=>some (.cons v c,cs)
   | none=>none
  | none=>none
def Znd (C:Cf):Nat→TypeId→List Value→Option (V×List Value)
 | 0,_,_=>none
 | g+1,t,cs=>match Zr C.leafs t with
  | some 4=>match cs with
   | .bool false :: .slice none 0 0 :: .slice none 0 0 :: r=>some (.agg (.cons (.data .bool false) (.cons (.data (.leaf 1) (0:Nat)) (.cons (.data (.leaf 1) (0:Nat)) .nl))),r)
   | _=>none
  | some i=>Zrc (.leaf i) cs
  | none=>match C.P.underlying t with
   | some (.int k)=>Zrc (.int k) cs
   | some .bool=>Zrc .bool cs
   | some (.float k)=>Zrc (.flt k) cs
   | some .string=>Zrc .str cs
   | some (.slice _)=>match zSl cs with
    | some r=>some (.nilS,r)
    | none=>none
   | some (.struct fs)=>match Zre (Znd C g) fs.toList cs with
    | some (c,r)=>some (.agg c,r)
    | none=>none
   | some (.array n e)=>match zRep (Znd C g e) n cs with
    | some (c,r)=>some (.agg c,r)
    | none=>none
   | _=>none
def ZAd (P:Program) (t:TypeId):Option Int:=match P.info? t with
 | some i=>match i.zero with
  | some (.int .i64 z)=>if z=0 then some z else none
  | _=>none
 | none=>none
def Zcf (C:Cf) (t:TypeId):Option V:=match C.P.info? t with
 | some i=>match i.zero with
  | some z=>match Znd C FU t z.cells.toList with
   | some (v,[])=>some v
   | _=>none
  | none=>none
 | none=>none
def aggD:TypeDesc→Bool
 | .struct _=>true
 | .array _ _=>true
 | _=>false
def szA (P:Program) (t:TypeId):Option (Nat×Bool):=match P.info? t,P.underlying t with
 | some i,some d=>some (i.size,aggD d)
 | _,_=>none
def fldA (P:Program) (s:TypeId) (f:Nat):Option Nat:=match P.underlying s with
 | some (.struct fs)=>match fs.toList[f]? with
  | some h=>match P.info? h.type with
   | some i=>match Nat.blt 0 i.size with
    | true=>some h.offset
    | false=>none
   | none=>none
  | none=>none
 | _=>none
def fldT (P:Program) (s:TypeId) (f:Nat):Option Field:=match P.underlying s with
 | some (.struct fs)=>fs.toList[f]?
 | _=>none
def ZQd (P:Program) (t:TypeId):Option (TypeId×Nat):=match P.underlying t with
 | some (.slice e)=>match P.info? e with
  | some i=>some (e,i.size)
  | none=>none
 | _=>none
structure EI where
 e:TypeId
 sz:Nat
 by_:Nat
 z:Value
def Zxc (P:Program) (t:TypeId):Option EI:=match P.underlying t with
 | some (.slice e)=>match P.info? e with
  | some i=>match i.zero with
   | some z=>match Nat.beq z.cells.toList.length i.size,Nat.blt 0 i.size,Nat.blt 0 i.bytes with
    | true,true,true=>some ⟨e,i.size,i.bytes,z⟩
    | _,_,_=>none
   | none=>none
  | none=>none
 | _=>none
def ZGe:Value→Option V
 | .bool b=>some (.data .bool b)
 | .int k n=>if inR k n then some (.data (.int k) n) else none
 | .float k n=>if n<18446744073709551616 then some (.data (.flt k) n) else none
 | .string s=>if s.data.toList.length≤maxLen then some (.data .str s.data.toList) else none
 | .slice none 0 0=>some .nilS
 | .map none=>some (.data (.leaf 5) (none:Option MPd))
 | _=>none
def opd {ρ:Type} (x:Operand) (k:V→Ev ρ):Ev ρ:=match x with
 | .tmp t=>.rdS t k
 | .const c=>match ZGe c with
  | some v=>k v
  | none=>.fail
 | .func f=>k (.fn f .nl)
 | .global _=>.fail
def ret (o:Oper) (v:V):Ev Unit:=match o.dst with
 | some d=>.wrS d v (.done ())
 | none=>.fail
def ZV {ρ:Type} (v:V) (k:IntKind→Int→Ev ρ):Ev ρ:=match v with
 | .data (.int κ) x=>k κ x
 | _=>.fail
def ZAg {ρ:Type} (v:V) (k:Bool→Ev ρ):Ev ρ:=match v with
 | .data .bool x=>k x
 | _=>.fail
def nthV:V→Nat→Option V
 | .cons a _,0=>some a
 | .cons _ b,n+1=>nthV b n
 | _,_=>none
def Zyb:V→V→V
 | .cons a b,c=>.cons a (Zyb b c)
 | _,c=>c
def binI {ρ:Type} (op:BinOp) (κ:IntKind) (x y:Int) (k:V→Ev ρ):Ev ρ:=match op with
 | .add=>match κ.signed with
  | true=>.bind (chk κ (x+y)) λz=>k (.data (.int κ) z)
  | false=>k (.data (.int κ) (κ.wrap (x+y)))
 | .sub=>match κ.signed with
  | true=>.bind (chk κ (x-y)) λz=>k (.data (.int κ) z)
  | false=>k (.data (.int κ) (κ.wrap (x-y)))
 | .mul=>match κ.signed with
  | true=>.bind (chk κ (x*y)) λz=>k (.data (.int κ) z)
  | false=>k (.data (.int κ) (κ.wrap (x*y)))
 | .quo=>.bind (quo κ x y) λz=>k (.data (.int κ) z)
 | .rem=>.bind (rem κ x y) λz=>k (.data (.int κ) z)
 | .and=>k (.data (.int κ) (andI κ x y))
 | .or=>k (.data (.int κ) (orI κ x y))
 | .xor=>k (.data (.int κ) (xorI κ x y))
 | .lss=>k (.data .bool (decide (x<y)))
 | .leq=>k (.data .bool (decide (x≤y)))
 | .gtr=>k (.data .bool (decide (y<x)))
 | .geq=>k (.data .bool (decide (y≤x)))
 | .eql=>k (.data .bool (x==y))
 | .neq=>k (.data .bool (x != y))
 | _=>.fail
def binE {ρ:Type} (P:Program) (op:BinOp) (t:TypeId) (v v':V) (k:V→Ev ρ):Ev ρ:=match v,v' with
 | .data (.int κ) x,.data (.int κ') y=>match op with
  | .shl=>.bind (shlI κ x y) λz=>k (.data (.int κ) z)
  | .shr=>.bind (shrI κ x y) λz=>k (.data (.int κ) z)
  | op=>match kEq κ κ' with
   | true=>binI op κ x y k
   | false=>.fail
 | .data .bool (x:Bool),.data .bool (y:Bool)=>match P.underlying t with
  | some .bool=>match op with
   | .eql=>k (.data .bool (x==y))
   | .neq=>k (.data .bool (x != y))
   | _=>.fail
  | _=>.fail
 | .data .str (x:List UInt8),.data .str (y:List UInt8)=>match op with
  | .add=>.bind (ZBb (x++y)) λ_=>k (.data .str (x++y))
  | .eql=>k (.data .bool (x==y))
  | .neq=>k (.data .bool (x != y))
  | _=>.fail
 | .data (.leaf 5) (x:Option MPd),.data (.leaf 5) (none:Option MPd)=>match op,P.underlying t with
  | .eql,some (.map _ _)=>k (.data .bool x.isNone)
  | _,_=>.fail
 | .own u,.data (.leaf 5) (none:Option MPd)=>match op,P.underlying t with
  | .eql,some (.map _ _)=>.rdL u λ_ L=>match L with
   | .mp m=>k (.data .bool m.isNone)
   | _=>.fail
  | _,_=>.fail
 | _,_=>.fail
def ldE {ρ:Type} (P:Program) (t:TypeId) (p:V) (k:V→Ev ρ):Ev ρ:=match szA P t with
 | none=>.fail
 | some s=>match p with
  | .ptr u off=>.rdL u λ_ L=>match L with
   | .box _ c=>match ZA FU c off s.1 s.2 with
    | some z=>k z
    | none=>.fail
   | _=>.fail
  | .el u i cv e x off=>.rdL u λcv' L=>match L with
   | .own _ _ _ _=>match Nat.beq cv' cv with
    | true=>match ZA FU (.data e x) off s.1 s.2 with
     | some z=>k z
     | none=>.fail
    | false=>.fail
   | .box ty (.data t' w')=>match P.underlying ty with
    | some (.array m _)=>match T.cast t' (ZC e m) w',Nat.beq off 0,Nat.blt 0 m with
     | some w2,true,true=>.bind (idx (Z2 e m w2) (i:Int)) λy=>match ZA FU (.data e y) 0 s.1 s.2 with
      | some z=>k z
      | none=>.fail
     | _,_,_=>.fail
    | _=>.fail
   | _=>.fail
  | .vp e x off=>match ZA FU (.data e x) off s.1 s.2 with
   | some z=>k z
   | none=>.fail
  | .rp u i hv cv e r=>.rdL u λcv' L=>match L with
   | .mat _ _ _ _ hv'=>match Nat.beq hv' hv,Nat.beq cv' cv,s.2 with
    | true,true,false=>k (.row u i hv cv e r)
    | _,_,_=>.fail
   | _=>.fail
  | .rel u _ _ hv cv e _ x off=>.rdL u λcv' L=>match L with
   | .mat _ _ _ _ hv'=>match Nat.beq hv' hv,Nat.beq cv' cv with
    | true,true=>match ZA FU (.data e x) off s.1 s.2 with
     | some z=>k z
     | none=>.fail
    | _,_=>.fail
   | _=>.fail
  | _=>.fail
def V.plain:V→Bool
 | .undef | .tup _=>false
 | .cons a b=>match a.plain with
  | true=>b.plain
  | false=>false
 | .agg c=>c.plain
 | _=>true
def V.fit (v:V):Bool:=match v.plain,v.isAgg with
 | true,true=>true
 | true,false=>Nat.beq v.size 1
 | false,_=>false
def ZFa (s t:T) (l:List s.den):Option (List t.den):=T.cast (.slice s) (.slice t) l
def Zha (s t:T) (m:List (List s.den)):Option (List (List t.den)):=T.cast (.slice (.slice s)) (.slice (.slice t)) m
def eqN (i j:Nat):Option Unit:=if i=j then some () else none
def Zib {α:Type} (m:List (List α)) (i j:Nat):List (List α):=(m.set i (m.getD j [])).set j (m.getD i [])
def stE (P:Program) (nid:Nat) (t:TypeId) (p v:V):Ev Unit:=match szA P t with
 | none=>.fail
 | some q=>match Nat.beq v.size q.1,eqB v.isAgg q.2,v.fit with
  | true,true,true=>match p with
   | .ptr u off=>.rdL u λ_ L=>match L with
    | .box ty c=>match Z0 FU c off v with
     | some c'=>.wrL u (.box ty c') (.done ())
     | none=>.fail
    | _=>.fail
   | .el u i cv s x off=>match Z0 FU (.data s x) off v with
    | some z=>conv FU s z λy=>.rdL u λcv' L=>match L with
     | .own ty s' l false=>match Nat.beq off 0,Nat.beq v.size s.n,Nat.beq cv' cv with
      | true,true,_=>match T.cast s s' y with
       | some y'=>.wrL u (.own ty s' (l.set i y') false) (.done ())
       | none=>.fail
      | _,_,true=>match T.cast s s' y with
       | some y'=>.wrL u (.own ty s' (l.set i y') false) (.done ())
       | none=>.fail
      | _,_,_=>.fail
     | .box ty (.data t' w')=>match P.underlying ty with
      | some (.array m _)=>match Nat.beq off 0,Nat.beq v.size s.n,T.cast t' (ZC s m) w',Nat.blt 0 m with
       | true,true,some w2,true=>.bind (inN i m) λ_=>match T.cast (ZC s m) t' (arrS s m w2 i y) with
        | some w3=>.wrL u (.box ty (.data t' w3)) (.done ())
        | none=>.fail
       | _,_,_,_=>.fail
      | _=>.fail
     | _=>.fail
    | none=>.fail
   | .rp u i _ _ _ _=>match v with
    | .own u2=>.rdL u λ_ L=>match L with
     | .mat ty ty2 s m _=>.rdL u2 λ_ L2=>match L2 with
      | .own ty3 s' l false=>match Nat.beq ty3 ty2,ZFa s' s l with
       | true,some l'=>.del u2 (.wrL u (.mat ty ty2 s (m.set i l') nid) (.done ()))
       | _,_=>.fail
      | _=>.fail
     | .mid ty ty2 s m _ (.hol j)=>.bind (eqN i j) λ_=>.rdL u2 λ_ L2=>match L2 with
      | .own ty3 s' l false=>match Nat.beq ty3 ty2,ZFa s' s l with
       | true,some l'=>.del u2 (.wrL u (.mat ty ty2 s (m.set i l') nid) (.done ()))
       | _,_=>.fail
      | _=>.fail
     | _=>.fail
    | .row u2 j hv2 _ _ _=>.rdL u λ_ L=>match L with
     | .mat ty ty2 s m hv=>match Nat.beq u2 u,Nat.beq hv hv2 with
      | true,true=>.wrL u (.mid ty ty2 s m hv (.swp i j)) (.done ())
      | _,_=>.fail
     | .mid ty ty2 s m hv (.swp i0 j0)=>match Nat.beq u2 u,Nat.beq hv hv2 with
      | true,true=>.bind (eqN i j0) λ_=>.bind (eqN j i0) λ_=>.wrL u (.mat ty ty2 s (Zib m i0 j0) nid) (.done ())
      | _,_=>.fail
     | _=>.fail
    | _=>.fail
   | .rel u i j hv cv s r x off=>match Z0 FU (.data s x) off v with
    | some z=>.rdL u λ_ L0=>match L0 with
     | .mat _ _ _ _ _=>conv FU s z λy=>.rdL u λcv' L=>match L with
      | .mat ty ty2 s' m hv'=>match Nat.beq hv' hv,Nat.beq cv' cv with
       | true,true=>match ZFa s s' (r.set j y) with
        | some r'=>.wrL u (.mat ty ty2 s' (m.set i r') hv') (.done ())
        | none=>.fail
       | _,_=>.fail
      | _=>.fail
     | _=>.fail
    | none=>.fail
   | _=>.fail
  | _,_,_=>.fail
def onM (C:Cf) (o:Oper):Bool:=match o.dst with
 | some d=>ZB C.mats d
 | none=>false
def onT (C:Cf) (o:Oper):Bool:=match o.dst with
 | some d=>ZB C.mats (d+100000)
 | none=>false
def takeE (P:Program) (o:Oper) (nid:Nat) (t:TypeId) (p:V):Ev Unit:=match szA P t with
 | none=>.fail
 | some s=>match p,s.2 with
  | .rp u i hv cv e r,false=>.rdL u λcv' L=>match L with
   | .mat ty ty2 s' m hv'=>match Nat.beq hv' hv,Nat.beq cv' cv,ZFa e s' r with
    | true,true,some z=>.wrL u (.mid ty ty2 s' m hv' (.hol i)) (.new nid (.own ty2 s' z false) (ret o (.own nid)))
    | _,_,_=>.fail
   | _=>.fail
  | _,_=>.fail
def shift:V→Nat→Option V
 | .ptr u off,k=>some (.ptr u (off+k))
 | .vp t x off,k=>some (.vp t x (off+k))
 | .el u i cv t x off,k=>some (.el u i cv t x (off+k))
 | .rel u i j hv cv t r x off,k=>some (.rel u i j hv cv t r x (off+k))
 | _,_=>none
def live {ρ:Type} (v:V) (k:Ev ρ):Ev ρ:=match v with
 | .ptr u _=>.rdL u λ_ L=>match L with
  | .box _ _=>k
  | _=>.fail
 | .vp _ _ _=>k
 | .el u _ _ _ _ _=>.rdL u λ_ L=>match L with
  | .own _ _ _ _=>k
  | _=>.fail
 | .rel u _ _ hv _ _ _ _ _=>.rdL u λ_ L=>match L with
  | .mat _ _ _ _ hv'=>match Nat.beq hv' hv with
   | true=>k
   | false=>.fail
  | _=>.fail
 | _=>.fail
def ixA (P:Program) (o:Oper) (t:TypeId) (v:V) (j:Int):Ev Unit:=match P.underlying t with
 | some (.array n e)=>match P.info? e,decide (0≤j),decide (j<n) with
  | some i,true,true=>match shift v (j.toNat*i.size) with
   | some z=>live v (ret o z)
   | none=>.fail
  | _,_,_=>.fail
 | _=>.fail
def alts (P:Program) (o:Oper) (t:TypeId) (v:V) (j:Int):Nat→Nat→Ev Unit
 | 0,_=>.fail
 | m+1,k=>.alt (decide (j=(k:Int))) (ixA P o t v (k:Int)) (alts P o t v j m (k+1))
def altE (P:Program) (o:Oper) (t:TypeId) (v:V) (j:Int):Ev Unit:=match P.underlying t with
 | some (.array n _)=>alts P o t v j n 0
 | _=>.fail
def ixQ (C:Cf) (o:Oper) (t:TypeId) (v:V) (j:Int):Ev Unit:=match C.P.underlying t with
 | some (.array m e)=>match ZYa C FU e,szA C.P e,Nat.blt 0 m with
  | some a,some q,true=>match Nat.beq q.1 a.n,v with
   | true,.ptr u 0=>.rdL u λcv L=>match L with
    | .box ty (.data s x)=>match Nat.beq ty t,T.cast s (ZC a m) x with
     | true,some x'=>.bind (idx (Z2 a m x') j) λy=>ret o (.el u j.toNat cv a y 0)
     | _,_=>.fail
    | _=>.fail
   | _,_=>.fail
  | _,_,_=>.fail
 | _=>.fail
def ixW (C:Cf) (o:Oper) (t:TypeId) (v:V) (j:Int):Ev Unit:=match C.P.underlying t with
 | some (.array m e)=>match ZYa C FU e,szA C.P e,v,Nat.blt 0 m with
  | some a,some q,.data s x,true=>match Nat.beq q.1 a.n,eqB q.2 a.agg,T.cast s (ZC a m) x with
   | true,true,some x'=>.bind (idx (Z2 a m x') j) λy=>ret o (.data a y)
   | _,_,_=>.fail
  | _,_,_,_=>.fail
 | _=>.fail
def onQ (C:Cf) (o:Oper):Bool:=match o.dst with
 | some d=>ZB C.mats (d+400000)
 | none=>false
def onA (C:Cf) (o:Oper):Bool:=match o.dst with
 | some d=>ZB C.mats (d+200000)
 | none=>false
def ixV (C:Cf) (o:Oper) (t:TypeId) (v:V) (j:Int):Ev Unit:=match C.P.underlying t with
 | some (.array n e)=>match szA C.P e,v.isAgg,decide (0≤j),decide (j<n) with
  | some q,true,true,true=>match ZA FU v (j.toNat*q.1) q.1 q.2 with
   | some z=>ret o z
   | none=>.fail
  | _,_,_,_=>.fail
 | _=>.fail
def altsV (C:Cf) (o:Oper) (t:TypeId) (v:V) (j:Int):Nat→Nat→Ev Unit
 | 0,_=>.fail
 | m+1,k=>.alt (decide (j=(k:Int))) (ixV C o t v (k:Int)) (altsV C o t v j m (k+1))
def altvE (C:Cf) (o:Oper) (t:TypeId) (v:V) (j:Int):Ev Unit:=match C.P.underlying t with
 | some (.array n _)=>altsV C o t v j n 0
 | _=>.fail
def ixE (P:Program) (o:Oper) (t:TypeId) (v:V) (j:Int):Ev Unit:=match ZQd P t with
 | none=>ixA P o t v j
 | some q=>match v with
  | .own u=>.rdL u λcv L=>match L with
   | .own _ s l _=>match Nat.beq q.2 s.n with
    | true=>.bind (idx l j) λy=>ret o (.el u j.toNat cv s y 0)
    | false=>.fail
   | .mat _ _ s m hv=>match Nat.beq q.2 1 with
    | true=>.bind (idx m j) λr=>ret o (.rp u j.toNat hv cv s r)
    | false=>.fail
   | .mid _ _ s m hv _=>match Nat.beq q.2 1 with
    | true=>.bind (idx m j) λr=>ret o (.rp u j.toNat hv cv s r)
    | false=>.fail
   | _=>.fail
  | .data (.slice s) l=>match Nat.beq q.2 s.n with
   | true=>.bind (idx l j) λy=>ret o (.vp s y 0)
   | false=>.fail
  | .data (.leaf 0) (n:Nat)=>match Nat.beq q.2 1 with
   | true=>.bind (idx (ZE 18446744073709551616 n) j) λy=>ret o (.vp (.int .u64) y 0)
   | false=>.fail
  | .data (.leaf 1) (n:Nat)=>match Nat.beq q.2 1 with
   | true=>.bind (idx (ZE 4294967296 n) j) λy=>ret o (.vp (.int .u32) y 0)
   | false=>.fail
  | .row u i hv cv s r=>.rdL u λcv' L=>match L with
   | .mat _ _ s' m hv'=>match Nat.beq hv' hv,Nat.beq cv' cv,Nat.beq q.2 s.n with
    | true,true,true=>.bind (idx r j) λy=>ret o (.rel u i j.toNat hv cv s r y 0)
    | true,false,true=>match Zha s' s m with
     | some m'=>.bind (idx m' (i:Int)) λr'=>.bind (idx r' j) λy=>ret o (.rel u i j.toNat hv cv' s r' y 0)
     | none=>.fail
    | _,_,_=>.fail
   | _=>.fail
  | _=>.fail
def lenE {ρ:Type} (P:Program) (t:TypeId) (v:V) (k:Nat→Ev ρ):Ev ρ:=match v with
 | .data .str (s:List UInt8)=>match P.underlying t with
  | some .string=>k s.length
  | _=>.fail
 | v=>match ZQd P t with
  | none=>.fail
  | some _=>match v with
   | .own u=>.rdL u λ_ L=>match L with
    | .own _ _ l _=>k l.length
    | .mat _ _ _ m _=>k m.length
    | _=>.fail
   | .data (.slice _) l=>k l.length
   | .data (.leaf 0) (n:Nat)=>k (ZE 18446744073709551616 n).length
   | .data (.leaf 1) (n:Nat)=>k (ZE 4294967296 n).length
   | .row u _ hv _ _ r=>.rdL u λ_ L=>match L with
    | .mat _ _ _ _ hv'=>match Nat.beq hv' hv with
     | true=>k r.length
     | _=>.fail
    | _=>.fail
   | _=>.fail
def fldE {ρ:Type} (P:Program) (s:TypeId) (f:Nat) (v:V) (k:V→Ev ρ):Ev ρ:=match fldA P s f with
 | some h=>match shift v h with
  | some z=>live v (k z)
  | none=>.fail
 | none=>.fail
def ZFb {ρ:Type}:List Operand→(V→Ev ρ)→Ev ρ
 | [],k=>k .nl
 | x :: r,k=>opd x λv=>match v with
  | .tup _=>.fail
  | v=>ZFb r λc=>k (.cons v c)
def ZVa {ρ:Type}:(ts:List T)→V→(Zk ts→Ev ρ)→Ev ρ
 | [],.nl,k=>k ()
 | [t],.cons v .nl,k=>conv FU t v k
 | t :: u :: r,.cons v c,k=>conv FU t v λx=>ZVa (u :: r) c λy=>k (x,y)
 | _,_,_=>.fail
def convS {ρ:Type} (t:T):V→(List t.den→Ev ρ)→Ev ρ
 | .nl,k=>k []
 | .cons v c,k=>conv FU t v λx=>convS t c λl=>k (x :: l)
 | _,_=>.fail
def ZLa:(ts:List T)→Zk ts→V
 | [],_=>.nl
 | [t],x=>.cons (.data t x) .nl
 | t :: u :: r,x=>.cons (.data t x.1) (ZLa (u :: r) x.2)
def ZTa:V→V
 | .cons v .nl=>v
 | c=>.tup c
def appM (o:Oper) (nid:Nat) (q:EI) (p:Option Nat) (v':V):Ev Unit:=match v' with
 | .own u2=>.rdL u2 λ_ L2=>match L2 with
  | .mat ty' ty2' s' m' _=>match p with
   | none=>match Nat.beq q.e ty',Nat.beq q.sz 1 with
    | true,true=>.bind (Zfa q.by_ ([]++m')) λ_=>.del u2 (.new nid (.mat ty' ty2' s' ([]++m') nid) (ret o (.own nid)))
    | _,_=>.fail
   | some u=>match Nat.beq u u2 with
    | true=>.fail
    | false=>.rdL u λ_ L=>match L with
     | .mat ty ty2 s m _=>match Zha s' s m',Nat.beq ty ty',Nat.beq ty2 ty2',Nat.beq q.e ty,Nat.beq q.sz 1 with
      | some m2,true,true,true,true=>.bind (Zfa q.by_ (m++m2)) λ_=>.del u2 (.del u (.new nid (.mat ty ty2 s (m++m2) nid) (ret o (.own nid))))
      | _,_,_,_,_=>.fail
     | _=>.fail
  | _=>.fail
 | _=>.fail
def appE (C:Cf) (o:Oper) (nid:Nat) (t:TypeId) (v v':V):Ev Unit:=match Zxc C.P t with
  | none=>.fail
  | some q=>match v with
    | .own u=>.rdL u λ_ L=>match L with
      | .own _ s _ _=>conv FU (.slice s) v' λy=>.rdL u λ_ L=>match L with
        | .own ty s' l false=>match ZFa s s' y,Nat.beq q.e ty,Nat.beq q.sz s'.n with
          | some y',true,true=>.bind (Zfa q.by_ (l++y')) λ_=>.del u (.new nid (.own ty s' (l++y') false) (ret o (.own nid)))
          | _,_,_=>.fail
        | _=>.fail
      | .mat _ _ _ _ _=>appM o nid q (some u) v'
      | _=>.fail
    | .row u i hv cv s r=>conv FU (.slice s) v' λ(y:List s.den)=>.rdL u λcv' L=>match L with
      | .mat ty ty2 s' m hv'=>match Nat.beq hv' hv,Nat.beq cv' cv,ZFa s s' (r++y),Nat.beq q.e ty2,Nat.beq q.sz s'.n with
        | true,true,some z,true,true=>.bind (Zfa q.by_ z) λ_=>.wrL u (.mid ty ty2 s' m hv' (.hol i)) (.new nid (.own ty2 s' z false) (ret o (.own nid)))
        | _,_,_,_,_=>.fail
      | _=>.fail
    | .nilS=>match onM C o with
     | true=>appM o nid q none v'
     | false=>match ZYa C FU q.e with
      | some s=>match Nat.beq q.sz s.n with
        | true=>conv FU (.slice s) v' λ(y:List s.den)=>.bind (Zfa q.by_ ([]++y)) λ_=>.new nid (.own q.e s ([]++y) false) (ret o (.own nid))
        | false=>.fail
      | none=>.fail
    | _=>.fail
def putF (P:Program) (s:TypeId):V→List (Nat×V)→Option V
 | z,[]=>some z
 | z,p :: r=>match fldT P s p.1 with
  | some h=>match szA P h.type with
   | some q=>match Nat.beq p.2.size q.1,p.2.fit,Z0 FU z h.offset p.2 with
    | true,true,some z'=>putF P s z' r
    | _,_,_=>none
   | none=>none
  | none=>none
def putA (n sz:Nat):V→List (Nat×V)→Option V
 | z,[]=>some z
 | z,p :: r=>match Nat.blt p.1 n,Nat.beq p.2.size sz,p.2.fit,Z0 FU z (p.1*sz) p.2 with
  | true,true,true,some z'=>putA n sz z' r
  | _,_,_,_=>none
def Z3d (P:Program):List Field→Bool
 | []=>true
 | h :: r=>match P.info? h.type with
  | some _=>Z3d P r
  | none=>false
def zipV:List (Nat×Operand)→V→List (Nat×V)
 | p :: r,.cons v c=>(p.1,v) :: zipV r c
 | _,_=>[]
def Zjc:V→V
 | .data t x=>match ZKb t x with
  | some c=>.agg c
  | none=>.data t x
 | v=>v
def Zye:Nat→List (Nat×Operand)→Bool
 | _,[]=>true
 | k,p :: r=>match Nat.beq p.1 k with
  | true=>Zye (k+1) r
  | false=>false
def ZOc:Option Int→Int→Int
 | some h,_=>h
 | none,n=>n
def cutE (P:Program) (o:Oper) (t:TypeId) (v:V) (lo hi:Option Int):Ev Unit:=match v with
 | .data (.slice s) l=>match ZQd P t with
  | some q=>match Nat.beq q.2 s.n with
   | true=>.bind (ZKa l (ZOc lo 0) (ZOc hi (l.length:Int))) λy=>ret o (.data (.slice s) y)
   | false=>.fail
  | none=>.fail
 | .data .str (l:List UInt8)=>match P.underlying t with
  | some .string=>.bind (ZKa l (ZOc lo 0) (ZOc hi (l.length:Int))) λy=>ret o (.data .str y)
  | _=>.fail
 | _=>.fail
def optI {ρ:Type} (x:Option Operand) (k:Option Int→Ev ρ):Ev ρ:=match x with
 | none=>k none
 | some x=>opd x λv=>ZV v λ_ i=>k (some i)
def insE (nid:Nat) (o:Oper) (c:ConI):V→Ev Unit
 | .cons a (.cons (.data (.int .i64) (i:Int)) (.cons (.own u2) .nl))=>.rdL u2 λ_ L2=>match L2 with
  | .own ty2 s2 l2 false=>match Nat.beq ty2 c.ty,ZFa s2 c.t l2 with
   | true,some [x]=>.del u2 (match a with
    | .own u=>.rdL u λ_ L=>match L with
     | .own ty s l false=>match Nat.beq ty c.ty,ZFa s c.t l with
      | true,some l'=>.bind (c.F l' i x) λz=>.del u (.new nid (.own c.ty c.t z false) (ret o (.own nid)))
      | _,_=>.fail
     | _=>.fail
    | .nilS=>.bind (c.F [] i x) λz=>.new nid (.own c.ty c.t z false) (ret o (.own nid))
    | _=>.fail)
   | _,_=>.fail
  | _=>.fail
 | _=>.fail
def arrE (C:Cf) (o:Oper) (t:TypeId) (s u off:Nat) (lo hi:Option Int):Ev Unit:=match Nat.beq off 0,lo,hi,C.P.underlying t with
 | true,none,none,some (.array n e)=>match ZYa C FU e,szA C.P e,Nat.blt 0 n,Nat.ble n 1000 with
  | some a,some q,true,true=>match Nat.beq q.1 a.n with
   | true=>.rdL u λ_ L=>match L with
    | .box _ c=>conv FU (ZC a n) c λx=>.rdL u λ_ L2=>match L2 with
     | .box _ _=>.del u (.wrS s (.vp (ZC a n) x 0) (ret o (.data (.slice a) (Z2 a n x))))
     | _=>.fail
    | _=>.fail
   | false=>.fail
  | _,_,_,_=>.fail
 | _,_,_,_=>.fail
def nilE {ρ:Type} (P:Program) (op:BinOp) (t:TypeId) (v:V) (k:V→Ev ρ):Ev ρ:=match op,P.underlying t with
 | .eql,some (.pointer _)=>match v with
  | .data (.ptr _) _=>k (.data .bool false)
  | v=>live v (k (.data .bool false))
 | _,_=>.fail
def ZAe:Operand→Bool
 | .const (.pointer none)=>true
 | _=>false
def delE (nid:Nat) (o:Oper) (c:ConD):V→Ev Unit
 | .cons (.own u) (.cons (.data (.int .i64) (i:Int)) (.cons (.data (.int .i64) (j:Int)) .nl))=>.rdL u λ_ L=>match L with
  | .own ty s l false=>match Nat.beq ty c.ty,ZFa s c.t l with
   | true,some l'=>.bind (c.F l' i j) λz=>.del u (.new nid (.own c.ty c.t z false) (ret o (.own nid)))
   | _,_=>.fail
  | _=>.fail
 | _=>.fail
def Zne (C:Cf) (nid:Nat) (o:Oper) (f:FuncId) (args:V):Ev Unit:=match Zr C.cons f with
 | some c=>ZVa c.args args λp=>.bind (c.F p) λz=>ret o (ZTa (ZLa c.res z))
 | none=>match Zr C.owns f with
  | some c=>ZVa c.args args λp=>.bind (c.F p) λz=>.new nid (.own c.ty c.t z false) (ret o (.own nid))
  | none=>match Zr C.ins f with
   | some c=>insE nid o c args
   | none=>match Zr C.omats f with
    | some c=>ZVa c.args args λp=>.bind (c.F p) λz=>.new nid (.mat c.ty c.ty2 c.t z nid) (ret o (.own nid))
    | none=>match Zr C.dels f with
     | some c=>delE nid o c args
     | none=>match Zr C.pows f with
      | some c=>ZVa c.args args λp=>.bind (c.F p) λz=>.new nid (.own c.ty c.t z.1 false) (ret o (.tup (.cons (.own nid) (ZLa c.res z.2))))
      | none=>.fail
def Zp (C:Cf) (nid:Nat) (o:Oper):Ev Unit:=match o.op with
  | .move x=>opd x (ret o)
  | .assign x=>match ZAe x with
    | true=>.new nid (.box 0 .undef) (.del nid (ret o (.ptr nid 0)))
    | false=>opd x (ret o)
  | .nilCheck x=>opd x λv=>match v with
    | .data (.ptr a) y=>ret o (.vp a y 0)
    | v=>live v (ret o v)
  | .pick (.tmp c) a b=>.test c (opd a (ret o)) (opd b (ret o))
  | .extract x i=>opd x λv=>match v with
    | .tup c=>match nthV c i with
      | some z=>ret o z
      | none=>.fail
    | _=>.fail
  | .lookup t x k q=>opd x λv=>opd k λw=>match v,w,C.P.underlying t with
    | .data (.leaf 5) (m:Option MPd),.data .str (s:List UInt8),some (.map kt et)=>match C.P.underlying kt,C.P.underlying et,q with
      | some .string,some (.int .i64),true=>match ZAd C.P et with
        | some z=>ret o (.tup (.cons (.data (.int .i64) ((Zh m s).getD z)) (.cons (.data .bool (Zh m s).isSome) .nl)))
        | none=>.fail
      | some .string,some (.int .i64),false=>match ZAd C.P et with
        | some z=>ret o (.data (.int .i64) ((Zh m s).getD z))
        | none=>.fail
      | _,_,_=>.fail
    | .own u,.data .str (s:List UInt8),some (.map kt et)=>match C.P.underlying kt,C.P.underlying et,ZAd C.P et with
      | some .string,some (.int .i64),some z=>.rdL u λ_ L=>match L with
        | .mp m=>match q with
          | true=>ret o (.tup (.cons (.data (.int .i64) ((Zh m s).getD z)) (.cons (.data .bool (Zh m s).isSome) .nl)))
          | false=>ret o (.data (.int .i64) ((Zh m s).getD z))
        | _=>.fail
      | _,_,_=>.fail
    | _,_,_=>.fail
  | .makeMap _ none=>.new nid (.mp (some [])) (ret o (.own nid))
  | .mapUpdate t x k y=>match o.dst with
    | none=>opd x λv=>opd k λw=>opd y λz=>match v,w,z,C.P.underlying t with
      | .own u,.data .str (s:List UInt8),.data (.int .i64) (i:Int),some (.map kt _)=>match C.P.underlying kt with
        | some .string=>.rdL u λ_ L=>match L with
          | .mp m=>.bind (ZVc m s i) λm'=>.wrL u (.mp m') (.done ())
          | _=>.fail
        | _=>.fail
      | _,_,_,_=>.fail
    | some _=>.fail
  | .alloc t=>match Zcf C t with
    | some z=>.new nid (.box t z) (ret o (.ptr nid 0))
    | none=>.fail
  | .box t x=>opd x λv=>match v.fit with
    | true=>.new nid (.box t v) (ret o (.ptr nid 0))
    | false=>.fail
  | .load t x=>opd x λp=>match onT C o with
    | true=>takeE C.P o nid t p
    | false=>ldE C.P t p (ret o)
  | .store t x y=>match o.dst with
    | none=>opd x λp=>opd y λv=>stE C.P nid t p v
    | some _=>.fail
  | .fieldAddr s x f=>opd x λv=>fldE C.P s f v (ret o)
  | .field s x f=>opd x λv=>match fldT C.P s f,v.isAgg with
    | some h,true=>match szA C.P h.type with
      | some q=>match ZA FU v h.offset q.1 q.2 with
        | some z=>ret o z
        | none=>.fail
      | none=>.fail
    | _,_=>.fail
  | .indexAddr t x i=>opd x λv=>opd i λw=>ZV w λ_ j=>match onA C o,onQ C o with
    | true,_=>altE C.P o t v j
    | false,true=>ixQ C o t v j
    | false,false=>ixE C.P o t v j
  | .index t x i=>opd x λv=>opd i λw=>ZV w λ_ j=>match v with
    | .data .str (l:List UInt8)=>match C.P.underlying t with
      | some .string=>.bind (idx l j) λ(y:UInt8)=>ret o (.data (.int .u8) ((y.toNat:Nat):Int))
      | _=>.fail
    | v=>match onA C o,onQ C o with
      | true,_=>altvE C o t v j
      | false,true=>ixW C o t v j
      | false,false=>ixV C o t v j
  | .binOp op t x y _=>match ZAe y with
    | true=>opd x λv=>nilE C.P op t v (ret o)
    | false=>opd x λv=>opd y λw=>binE C.P op t v w (ret o)
  | .unOp .not _ x=>opd x λv=>ZAg v λb=>ret o (.data .bool (!b))
  | .unOp .neg _ x=>opd x λv=>ZV v λκ i=>ret o (.data (.int κ) (κ.wrap (-i)))
  | .convert s d x=>opd x λv=>match v,C.P.underlying s,C.P.underlying d with
    | .data (.int κ) i,some _,some (.int κ')=>match kEq κ κ' with
      | true=>ret o (.data (.int κ) i)
      | false=>ret o (.data (.int κ') (κ'.wrap i))
    | .data .str (l:List UInt8),some .string,some .string=>ret o (.data .str l)
    | .data .str (l:List UInt8),some .string,some (.slice e)=>match C.P.underlying e with
      | some (.int .u8)=>ret o (.data (.slice (.int .u8)) (Zfb l))
      | _=>.fail
    | _,_,_=>.fail
  | .makeFunc (.func f) first cap=>match first.toList with
    | []=>ZFb cap.toList λc=>ret o (.fn f c)
    | _=>.fail
  | .makeInterface t x=>opd x λv=>match v.fit with
    | true=>match C.P.underlying t with
      | some (.interface _)=>.fail
      | some _=>ret o (.ifc t v)
      | none=>.fail
    | false=>.fail
  | .makeSlice t l c=>opd l λv=>opd c λw=>ZV v λ_ i=>ZV w λ_ j=>match Zxc C.P t,o.dst with
    | some q,some d=>.bind (mk q.by_ i j) λ_=>match ZB C.mats d with
      | true=>match Zxc C.P q.e,zSl q.z.cells.toList,Nat.beq q.sz 1 with
        | some q2,some _,true=>match ZYa C FU q2.e with
          | some s=>match Nat.beq q2.sz s.n with
            | true=>.new nid (.mat q.e q2.e s (List.replicate i.toNat []) nid) (ret o (.own nid))
            | false=>.fail
          | none=>.fail
        | _,_,_=>.fail
      | false=>match ZYa C FU q.e with
        | some s=>match Zuc s,zOK s q.z.cells.toList,Nat.beq q.sz s.n with
          | some z,some _,true=>.new nid (.own q.e s (List.replicate i.toNat z) false) (ret o (.own nid))
          | _,_,_=>.fail
        | none=>.fail
    | _,_=>.fail
  | .buildSlice t n ps=>match Zxc C.P t with
    | some q=>match onM C o with
     | true=>match n,ps.toList with
      | 1,[(0,x)]=>opd x λv=>match v,Zxc C.P q.e,zSl q.z.cells.toList with
        | .own u2,some q2,some _=>.rdL u2 λ_ L=>match L with
          | .own ty2 s l false=>match Nat.beq q2.e ty2,Nat.beq q2.sz s.n,Nat.beq q.sz 1 with
            | true,true,true=>.del u2 (.new nid (.mat q.e ty2 s [l] nid) (ret o (.own nid)))
            | _,_,_=>.fail
          | _=>.fail
        | _,_,_=>.fail
      | _,_=>.fail
     | false=>match ZYa C FU q.e,Zye 0 ps.toList,Nat.beq ps.toList.length n,Nat.ble (n*q.sz) 16777216 with
      | some s,true,true,true=>match Nat.beq q.sz s.n with
        | true=>ZFb (ps.toList.map (·.2)) λc=>convS s c λl=>.new nid (.own q.e s l false) (ret o (.own nid))
        | false=>.fail
      | _,_,_,_=>.fail
    | none=>.fail
  | .build t ps=>match Zcf C t,C.P.underlying t with
    | some z,some (.struct fs)=>match Z3d C.P fs.toList,(Zjc z).isAgg,z.isAgg with
      | true,true,true=>match ps.toList with
        | []=>ret o z
        | l=>ZFb (l.map (·.2)) λc=>match putF C.P t (Zjc z) (zipV l c) with
          | some z'=>ret o z'
          | none=>.fail
      | _,_,_=>.fail
    | some z,some (.array n e)=>match C.P.info? e,(Zjc z).isAgg,z.isAgg with
      | some i,true,true=>ZFb (ps.toList.map (·.2)) λc=>match putA n i.size (Zjc z) (zipV ps.toList c) with
        | some z'=>ret o z'
        | none=>.fail
      | _,_,_=>.fail
    | _,_=>.fail
  | .slice t x lo hi none=>optI lo λi=>optI hi λj=>opd x λv=>match v with
    | .own u=>.rdL u λ_ L=>match L with
      | .own _ s _ _=>conv FU (.slice s) v λl=>cutE C.P o t (.data (.slice s) l) i j
      | _=>.fail
    | .data (.leaf 0) (n:Nat)=>cutE C.P o t (.data (.slice (.int .u64)) (ZE 18446744073709551616 n)) i j
    | .data (.leaf 1) (n:Nat)=>cutE C.P o t (.data (.slice (.int .u32)) (ZE 4294967296 n)) i j
    | .ptr u off=>match x with
      | .tmp s=>arrE C o t s u off i j
      | _=>.fail
    | v=>cutE C.P o t v i j
  | .call c=>match c.callee with
    | .builtin .len=>match c.args.toList,c.argTypes.toList with
      | [x],[t]=>opd x λv=>lenE C.P t v λn=>ret o (.data (.int .i64) (n:Int))
      | _,_=>.fail
    | .builtin .append=>match c.args.toList,c.argTypes.toList with
      | [x,y],[t,t']=>match Nat.beq t t' with
        | true=>opd x λv=>opd y λw=>appE C o nid t v w
        | false=>.fail
      | _,_=>.fail
    | .builtin .max=>match c.args.toList with
      | [x,y]=>opd x λv=>opd y λw=>ZV v λκ i=>ZV w λκ' j=>match kEq κ κ' with
        | true=>ret o (.data (.int κ) (max i j:Int))
        | false=>.fail
      | [x,y,z]=>opd x λv=>opd y λw=>opd z λu=>ZV v λκ i=>ZV w λκ' j=>ZV u λκ'' k=>match kEq κ κ',kEq κ κ'' with
        | true,true=>ret o (.data (.int κ) (max (max i j) k:Int))
        | _,_=>.fail
      | [x1,x2,x3,x4,x5,x6]=>opd x1 λv1=>opd x2 λv2=>opd x3 λv3=>opd x4 λv4=>opd x5 λv5=>opd x6 λv6=>ZV v1 λκ i1=>ZV v2 λκ2 i2=>ZV v3 λκ3 i3=>ZV v4 λκ4 i4=>ZV v5 λκ5 i5=>ZV v6 λκ6 i6=>match kEq κ κ2,kEq κ κ3,kEq κ κ4,kEq κ κ5,kEq κ κ6 with
        | true,true,true,true,true=>ret o (.data (.int κ) (max (max (max (max (max i1 i2) i3) i4) i5) i6:Int))
        | _,_,_,_,_=>.fail
      | _=>.fail
    | .builtin .min=>match c.args.toList with
      | [x,y]=>opd x λv=>opd y λw=>ZV v λκ i=>ZV w λκ' j=>match kEq κ κ' with
        | true=>ret o (.data (.int κ) (min i j:Int))
        | false=>.fail
      | _=>.fail
    | .value x=>opd x λfv=>ZFb c.args.toList λags=>match fv with
      | .fn f .nl=>Zne C nid o f ags
      | _=>.fail
    | .invoke x m=>opd x λr=>ZFb c.args.toList λags=>match r with
      | .ifc t v=>match lkM C.meths t m with
        | some f=>Zne C nid o f (.cons v ags)
        | none=>.fail
      | _=>.fail
    | _=>.fail
  | _=>.fail
def ZRc (o:Oper):Ev Unit:=match o.dst with
 | some d=>.wrS d .undef (.done ())
 | none=>.done ()
def gop (C:Cf) (ops:List Oper) (nid:Nat) (o:Oper):Ev Unit:=match o.guard with
 | none=>Zp C nid o
 | some (j,w)=>match ops[j]? with
  | some q=>match q.dst with
   | some t=>.rdS t λx=>match x with
    | .undef=>ZRc o
    | .data .bool _=>match w with
     | true=>.test t (Zp C nid o) (ZRc o)
     | false=>.test t (ZRc o) (Zp C nid o)
    | _=>.fail
   | none=>.fail
  | none=>.fail
structure Fp where
 rs:Nat
 ws:Nat
 rl:Nat
 wl:Nat
def Fp.no:Fp:=⟨0,0,0,0⟩
def bit (m k:Nat):Nat:=Nat.lor m (Nat.pow 2 k)
def Zda {ρ α:Type} (n:Nat):Ev ρ→Fr→Lo→Fp→(ρ→Fr→Lo→Fp→Option α)→Option α
 | .fail,_,_,_,_=>none
 | .done r,f,l,p,K=>K r f l p
 | .rdS t k,f,l,p,K=>match lkE f t with
  | some x=>Zda n (k x.x) f l ⟨bit p.rs t,p.ws,p.rl,p.wl⟩ K
  | none=>none
 | .rdL u k,f,l,p,K=>match lkE l u with
  | some x=>Zda n (k x.st x.x) f l ⟨p.rs,p.ws,bit p.rl u,p.wl⟩ K
  | none=>none
 | .wrS t x e,f,l,p,K=>Zda n e (⟨t,n,x⟩ :: f) l ⟨p.rs,bit p.ws t,p.rl,p.wl⟩ K
 | .wrL u L e,f,l,p,K=>Zda n e f (⟨u,n,L⟩ :: era l u) ⟨p.rs,p.ws,p.rl,bit p.wl u⟩ K
 | .new u L e,f,l,p,K=>match lkE l u with
  | none=>Zda n e f (⟨u,n,L⟩ :: l) ⟨p.rs,p.ws,bit p.rl u,bit p.wl u⟩ K
  | some _=>none
 | .del u e,f,l,p,K=>Zda n e f (era l u) ⟨p.rs,p.ws,p.rl,bit p.wl u⟩ K
 | .bind x k,f,l,p,K=>bnd x λy=>Zda n (k y) f l p K
 | .test t e1 e2,f,l,p,K=>match lkE f t with
  | some ⟨_,s,.data .bool b⟩=>ifb b (Zda n e1 (⟨t,s,.data .bool true⟩ :: f) l ⟨bit p.rs t,p.ws,p.rl,p.wl⟩ K) (Zda n e2 (⟨t,s,.data .bool false⟩ :: f) l ⟨bit p.rs t,p.ws,p.rl,p.wl⟩ K)
  | _=>none
 | .alt b e1 e2,f,l,p,K=>ifb b (Zda n e1 f l p K) (Zda n e2 f l p K)
def Fp.free (p q:Fp):Bool:=Nat.beq (Nat.lor (Nat.lor (Nat.land p.ws (Nat.lor q.rs q.ws)) (Nat.land p.rs q.ws)) (Nat.lor (Nat.land p.wl (Nat.lor q.rl q.wl)) (Nat.land p.rl q.wl))) 0
def ZOa (done:List Nat):List Edge→Nat→Nat
 | [],m=>m
 | e :: r,m=>match Region.binds .any e with
  | true=>ZOa done r (Nat.lor (bit m e.on) (done.getD e.on 0))
  | false=>ZOa done r m
def ZW:List Oper→List Nat→List Nat
 | [],done=>done
 | o :: r,done=>ZW r (done++[ZOa done o.after.toList 0])
def chk1 (m:Nat) (q:Fp):List Fp→Nat→Bool
 | [],_=>true
 | p :: r,i=>match Nat.testBit m i with
  | true=>chk1 m q r (i+1)
  | false=>match p.free q with
   | true=>chk1 m q r (i+1)
   | false=>false
def ZLb:List Fp→List Nat→List Fp→Bool
 | _,_,[]=>true
 | bef,m :: ms,q :: qs=>match chk1 m q bef 0 with
  | true=>ZLb (bef++[q]) ms qs
  | false=>false
 | _,[],_ :: _=>false
def ZDd (i:Nat):List Edge→Bool
 | []=>true
 | e :: r=>match Region.binds .any e with
  | true=>match Nat.blt e.on i with
   | true=>ZDd i r
   | false=>false
  | false=>ZDd i r
def Zvb:Nat→List Oper→Bool
 | _,[]=>true
 | i,o :: r=>match ZDd i o.after.toList with
  | true=>Zvb (i+1) r
  | false=>false
inductive Pl where
 | sl (s:Nat)
 | fld (p:Pl) (off:Nat)
inductive Vr where
 | s (t:Nat) (c:CT)
 | l (p:Pl) (c:CT)
def Vr.ct:Vr→CT
 | .s _ c=>c
 | .l _ c=>c
def ctL:List CT→CT
 | []=>.nl
 | [v]=>.one v
 | v :: w :: r=>.cons v (ctL (w :: r))
inductive Kd where
 | norm | exit (id:Nat) | ret
structure Js where
 keep:List Nat
 drop:List Pl
 vs:List Vr
structure Jn where
 head:Js
 outs:List (Kd×Js)
inductive Ann where
 | no
 | two (a b:Ann)
 | cut (c:Jn) (a:Ann)
 | unroll (k:Nat) (a:Ann)
 | sel (i:Nat) (a b:Ann)
 | lend (us:List Nat) (bs:List (Nat×T)) (nb fl keep:List Nat) (a:Ann)
structure Kt (α:Type) where
 norm:Fr→Lo→Nat→Option α
 exit:Nat→Fr→Lo→Nat→Option α
 ret:V→Lo→Nat→Option α
def Ann.fst:Ann→Ann
 | .two a _=>a
 | _=>.no
def Ann.snd:Ann→Ann
 | .two _ b=>b
 | _=>.no
def idV:V→Option Nat
 | .own u=>some u
 | .ptr u 0=>some u
 | _=>none
def ZBa (f:Fr) (l:Lo):Pl→Option Nat
 | .sl s=>match lkE f s with
  | some v=>idV v.x
  | none=>none
 | .fld p off=>match ZBa f l p with
  | some u=>match lkE l u with
   | some ⟨_,_,.box _ c⟩=>match ZA FU c off 1 false with
    | some v=>idV v
    | none=>none
   | _=>none
  | none=>none
def idsOf (f:Fr) (l:Lo):List Pl→Option (List Nat)
 | []=>some []
 | p :: r=>match ZBa f l p,idsOf f l r with
  | some u,some us=>some (u :: us)
  | _,_=>none
def Zw {ρ:Type}:Nat→(c:CT)→V→(c.den→Ev ρ)→Ev ρ
 | 0,_,_,_=>.fail
 | g+1,c,v,K=>match c,K with
  | .dat t,K=>conv FU t v K
  | .own ty t,K=>match v with
   | .own u=>.rdL u λ_ L=>match L with
    | .own ty' t' xs false=>match Nat.beq ty ty',ZFa t' t xs with
     | true,some ys=>.del u (K ys)
     | _,_=>.fail
    | _=>.fail
   | .nilS=>K []
   | _=>.fail
  | .mat ty ty2 t,K=>match v with
   | .own u=>.rdL u λ_ L=>match L with
    | .mat ty' ty2' t' m _=>match Nat.beq ty ty',Nat.beq ty2 ty2',T.cast (.slice (.slice t')) (.slice (.slice t)) m with
     | true,true,some m'=>.del u (K m')
     | _,_,_=>.fail
    | _=>.fail
   | .nilS=>K []
   | _=>.fail
  | .nl,K=>match v with
   | .nl=>K ()
   | _=>.fail
  | .one a,K=>match v with
   | .cons x .nl=>Zw g a x K
   | _=>.fail
  | .cons a b,K=>match v with
   | .cons x y=>Zw g a x λp=>Zw g b y λq=>K (p,q)
   | _=>.fail
  | .agg c,K=>match v with
   | .agg x=>Zw g c x K
   | _=>.fail
  | .box ty c,K=>match v with
   | .ptr u 0=>.rdL u λ_ L=>match L with
    | .box ty' x=>match Nat.beq ty ty' with
     | true=>.del u (Zw g c x K)
     | false=>.fail
    | _=>.fail
   | _=>.fail
  | .mp,K=>match v with
   | .own u=>.rdL u λ_ L=>match L with
    | .mp m=>.del u (K m)
    | _=>.fail
   | .data (.leaf 5) (m:Option MPd)=>match m with
    | none=>K (none:Option MPd)
    | some _=>.fail
   | _=>.fail
def Zd:(c:CT)→c.den→Nat→V×Lo×Nat
 | .dat t,x,n=>(.data t x,[],n)
 | .own ty t,x,n=>(.own n,[⟨n,n,.own ty t x false⟩],n+1)
 | .mat ty ty2 t,x,n=>(.own n,[⟨n,n,.mat ty ty2 t x n⟩],n+1)
 | .nl,_,n=>(.nl,[],n)
 | .one a,x,n=>match Zd a x n with
  | (v,l,m)=>(.cons v .nl,l,m)
 | .cons a b,x,n=>match Zd a x.1 n with
  | (v,l,m)=>match Zd b x.2 m with
   | (v',l',m')=>(.cons v v',l++l',m')
 | .agg c,x,n=>match Zd c x n with
  | (v,l,m)=>(.agg v,l,m)
 | .box ty c,x,n=>match Zd c x (n+1) with
  | (v,l,m)=>(.ptr n 0,⟨n,n,.box ty v⟩ :: l,m)
 | .mp,x,n=>(.own n,[⟨n,n,.mp x⟩],n+1)
def ZR (l:Lo) (u:Nat):Nat:=match lkE l u with
 | some ⟨_,_,.mat _ _ _ _ hv⟩=>hv
 | _=>0
def ZCa {ρ:Type} (h:Nat) (c:CT) (u:Nat) (K:c.den→Ev ρ):Ev ρ:=match c,K with
 | .agg (.mat ty ty2 t),K=>.rdL u λ_ L=>match L with
  | .mat ty' ty2' t' m hv=>match Nat.beq ty ty',Nat.beq ty2 ty2',T.cast (.slice (.slice t')) (.slice (.slice t)) m,Nat.beq hv h with
   | true,true,some m',true=>.del u (K m')
   | _,_,_,_=>.fail
  | _=>.fail
 | .own ty t,K=>.rdL u λ_ L=>match L with
  | .own ty' t' xs false=>match Nat.beq ty ty',ZFa t' t xs with
   | true,some ys=>.del u (K ys)
   | _,_=>.fail
  | _=>.fail
 | .mat ty ty2 t,K=>.rdL u λ_ L=>match L with
  | .mat ty' ty2' t' m _=>match Nat.beq ty ty',Nat.beq ty2 ty2',T.cast (.slice (.slice t')) (.slice (.slice t)) m with
   | true,true,some m'=>.del u (K m')
   | _,_,_=>.fail
  | _=>.fail
 | .box ty c,K=>.rdL u λ_ L=>match L with
  | .box ty' x=>match Nat.beq ty ty' with
   | true=>.del u (Zw FU c x K)
   | false=>.fail
  | _=>.fail
 | _,_=>.fail
def Z1b {ρ:Type} (f0:Fr) (l0:Lo):(vs:List Vr)→((ctL (vs.map Vr.ct)).den→Ev ρ)→Ev ρ
 | [],K=>K ()
 | [.s t c],K=>.rdS t λv=>Zw FU c v K
 | [.l p c],K=>match ZBa f0 l0 p with
  | some u=>ZCa (ZR l0 u) c u K
  | none=>.fail
 | .s t c :: w :: r,K=>.rdS t λv=>Zw FU c v λx=>Z1b f0 l0 (w :: r) λy=>K (x,y)
 | .l p c :: w :: r,K=>match ZBa f0 l0 p with
  | some u=>ZCa (ZR l0 u) c u λx=>Z1b f0 l0 (w :: r) λy=>K (x,y)
  | none=>.fail
def ZZ (f:Fr):List Nat→Fr
 | []=>[]
 | s :: r=>match lkE f s with
  | some e=>e :: ZZ f r
  | none=>ZZ f r
def Zv (h:Nat) (c:CT) (x:c.den) (u n:Nat):Lo×Nat:=match c,x with
 | .agg (.mat ty ty2 t),x=>([⟨u,n,.mat ty ty2 t x h⟩],n+1)
 | .own ty t,x=>([⟨u,n,.own ty t x false⟩],n+1)
 | .mat ty ty2 t,x=>([⟨u,n,.mat ty ty2 t x n⟩],n+1)
 | .box ty c,x=>match Zd c x (n+1) with
  | (v,l,m)=>(⟨u,n,.box ty v⟩ :: l,m)
 | _,_=>([],n)
def Zia (f0:Fr) (l0:Lo):(vs:List Vr)→(ctL (vs.map Vr.ct)).den→Nat→Fr×Lo×Nat
 | [],_,n=>([],[],n)
 | [.s t c],x,n=>match Zd c x (n+1) with
  | (v,l,m)=>([⟨t,n,v⟩],l,m)
 | [.l p c],x,n=>match ZBa f0 l0 p with
  | some u=>match Zv (ZR l0 u) c x u n with
   | (l,m)=>([],l,m)
  | none=>([],[],n)
 | .s t c :: w :: r,x,n=>match Zd c x.1 (n+1) with
  | (v,l,m)=>match Zia f0 l0 (w :: r) x.2 m with
   | (f',l',m')=>(⟨t,n,v⟩ :: f',l++l',m')
 | .l p c :: w :: r,x,n=>match ZBa f0 l0 p with
  | some u=>match Zv (ZR l0 u) c x.1 u n with
   | (l,m)=>match Zia f0 l0 (w :: r) x.2 m with
    | (f',l',m')=>(f',l++l',m')
  | none=>([],[],n)
def goneP (f0:Fr) (l0:Lo):List Pl→List Nat
 | p :: r=>match ZBa f0 l0 p with
  | some u=>u :: goneP f0 l0 r
  | none=>goneP f0 l0 r
 | []=>[]
def Zcb (f0:Fr) (l0:Lo):List Vr→List Nat
 | .s t _ :: r=>match ZBa f0 l0 (.sl t) with
  | some u=>u :: Zcb f0 l0 r
  | none=>Zcb f0 l0 r
 | .l p _ :: r=>match ZBa f0 l0 p with
  | some u=>u :: Zcb f0 l0 r
  | none=>Zcb f0 l0 r
 | []=>[]
def gone (f0:Fr) (l0:Lo) (ps:List Pl) (vs:List Vr):List Nat:=goneP f0 l0 ps++Zcb f0 l0 vs
def idsV:V→List Nat→List Nat
 | .own u,r=>u :: r
 | .row u _ _ _ _ _,r=>u :: r
 | .ptr u _,r=>u :: r
 | .el u _ _ _ _ _,r=>u :: r
 | .rp u _ _ _ _ _,r=>u :: r
 | .rel u _ _ _ _ _ _ _ _,r=>u :: r
 | .cons a b,r=>idsV a (idsV b r)
 | .agg c,r=>idsV c r
 | .tup c,r=>idsV c r
 | .fn _ c,r=>idsV c r
 | _,r=>r
def idsF:Fr→List Nat
 | []=>[]
 | e :: r=>idsV e.x (idsF r)
def Zkd (l:Lo):Nat→List Nat→List Nat→List Nat
 | 0,_,a=>a
 | _,[],a=>a
 | g+1,u :: r,a=>match ZB a u with
  | true=>Zkd l g r a
  | false=>match lkE l u with
   | some ⟨_,_,.box _ c⟩=>Zkd l g (idsV c r) (u :: a)
   | _=>Zkd l g r (u :: a)
def Zrb (b:Nat) (rs us:List Nat):Lo→Lo
 | []=>[]
 | e :: r=>match ZB us e.k with
  | true=>Zrb b rs us r
  | false=>match Nat.ble b e.k with
   | false=>e :: Zrb b rs us r
   | true=>match ZB rs e.k with
    | true=>e :: Zrb b rs us r
    | false=>Zrb b rs us r
def stayL (b:Nat) (f0:Fr) (l0:Lo) (j:Js) (vs:List Vr):Lo:=Zrb b (Zkd l0 50 (idsF (ZZ f0 j.keep)) []) (gone f0 l0 j.drop vs) l0
def Zmd (n:Nat) (f:Fr):List Nat→Bool
 | []=>true
 | s :: r=>match lkE f s with
  | some e=>match Nat.ble n e.st with
   | true=>false
   | false=>Zmd n f r
  | none=>false
def Zzd (n:Nat) (l:Lo):Lo→Bool
 | []=>true
 | e :: r=>match lkE l e.k with
  | some e'=>match Nat.ble n e'.st with
   | true=>false
   | false=>Zzd n l r
  | none=>false
def build {α:Type} (b:Nat) (f0:Fr) (l0:Lo) (j:Js) (x:(ctL (j.vs.map Vr.ct)).den) (n:Nat) (K:Fr→Lo→Nat→α):α:=match Zia f0 l0 j.vs x n with
 | (f',l',m)=>K (f'++ZZ f0 j.keep) (l'++stayL b f0 l0 j j.vs) m
def kdEq:Kd→Kd→Bool
 | .norm,.norm=>true
 | .ret,.ret=>true
 | .exit i,.exit j=>Nat.beq i j
 | _,_=>false
abbrev jT (j:Js):Type:=(ctL (j.vs.map Vr.ct)).den
def sumT:List (Kd×Js)→Type
 | []=>Empty
 | [o]=>jT o.2
 | o :: p :: r=>jT o.2 ⊕ sumT (p :: r)
def Zwb {α:Type} (b n0 n:Nat) (f0:Fr) (l0:Lo) (f:Fr) (l:Lo) (j:Js) (K:jT j→Option α):Option α :=
 ZL n (Z1b f0 l0 j.vs λx=>.done x) f l λx _ l'=>match Zmd n0 f j.keep,Zzd n0 l' (stayL b f0 l0 j j.vs) with
  | true,true=>K x
  | _,_=>none
def Zla (n:Nat):Nat→V→Fr
 | k,.cons v c=>⟨k,n,v⟩ :: Zla n (k+1) c
 | _,_=>[]
def lenV:V→Nat
 | .cons _ c=>lenV c+1
 | _=>0
def ordS:Nat→List Vr→Option Nat
 | k,[]=>some k
 | k,.s t _ :: r=>match Nat.beq t k with
  | true=>ordS (k+1) r
  | false=>none
 | k,.l _ _ :: r=>ordS k r
def ZNd {α:Type} (b n0 n:Nat) (f0:Fr) (l0:Lo) (c:V) (l:Lo) (j:Js) (K:jT j→Option α):Option α:=match j.keep,ordS 1000 j.vs with
 | [],some k=>match Nat.beq (1000+lenV c) k with
  | true=>Zwb b n0 (n+1) f0 l0 (Zla n 1000 c) l j K
  | false=>none
 | _,_=>none
def ZXe (f:Fr):Nat→Nat→Option V
 | 0,_=>some .nl
 | g+1,t=>match lkE f t,ZXe f g (t+1) with
  | some ⟨_,_,.tup _⟩,_=>none
  | some e,some c=>some (.cons e.x c)
  | _,_=>none
def ZUa {α:Type} (b n0 n:Nat) (f0:Fr) (l0:Lo) (kd:Kd) (c:V) (f:Fr) (l:Lo):(os:List (Kd×Js))→(sumT os→Option α)→Option α
 | [],_=>none
 | [o],K=>match kdEq o.1 kd with
  | true=>match kd with
   | .ret=>ZNd b n0 n f0 l0 c l o.2 K
   | _=>Zwb b n0 n f0 l0 f l o.2 K
  | false=>none
 | o :: p :: r,K=>match kdEq o.1 kd with
  | true=>match kd with
   | .ret=>ZNd b n0 n f0 l0 c l o.2 λx=>K (.inl x)
   | _=>Zwb b n0 n f0 l0 f l o.2 λx=>K (.inl x)
  | false=>ZUa b n0 n f0 l0 kd c f l (p :: r) λx=>K (.inr x)
def retK {α:Type} (vs:List Vr) (K:V→Lo→Nat→Option α) (f:Fr) (l:Lo) (m:Nat):Option α:=match ordS 1000 vs with
 | some k=>match ZXe f (k-1000) 1000 with
  | some c=>K c l m
  | none=>none
 | none=>none
def Z5c {α:Type} (b:Nat) (f0:Fr) (l0:Lo) (n:Nat) (K:Kt α) (o:Kd×Js) (x:jT o.2):Option α:=match o.1 with
 | .norm=>build b f0 l0 o.2 x n K.norm
 | .exit i=>build b f0 l0 o.2 x n (K.exit i)
 | .ret=>build b f0 l0 o.2 x n (retK o.2.vs K.ret)
def arms {α:Type} (b:Nat) (f0:Fr) (l0:Lo) (n:Nat) (K:Kt α):(os:List (Kd×Js))→sumT os→Option α
 | [],_=>none
 | [o],x=>Z5c b f0 l0 n K o x
 | o :: p :: r,x=>match x with
  | .inl y=>Z5c b f0 l0 n K o y
  | .inr y=>arms b f0 l0 n K (p :: r) y
abbrev Go (α:Type):=Ann→Fr→Lo→Nat→Kt α→Option α
def Z7c:T→Bool
 | .int _ | .bool | .flt _ | .str=>true
 | .one a=>Z7c a
 | .pair a b=>match Z7c a with
  | true=>Z7c b
  | false=>false
 | _=>false
def ZHa:V→Bool
 | .data t _=>Z7c t
 | .undef | .nilS | .nl=>true
 | .cons a b=>match ZHa a with
  | true=>ZHa b
  | false=>false
 | .agg c=>ZHa c
 | .tup c=>ZHa c
 | _=>false
def Zld {ρ:Type} (e:Ev ρ):List Nat→Ev ρ
 | []=>e
 | u :: r=>.rdL u λ_ L=>match L with
  | .own ty t xs false=>.wrL u (.own ty t xs true) (Zld e r)
  | .own _ _ _ true=>Zld e r
  | _=>.fail
def Zwe {ρ:Type} (e:Ev ρ):List (Nat×T)→Ev ρ
 | []=>e
 | p :: r=>.rdS p.1 λv=>match v with
  | .ptr u off=>conv FU (.ptr p.2) (.ptr u off) λy=>.wrS p.1 (.vp p.2 y 0) (Zwe e r)
  | _=>.fail
def ZGc (d:Nat):Nat→V
 | 0=>.nl
 | k+1=>.cons (.own d) (ZGc d k)
def nbL (n n':Nat) (f':Fr) (l' l:Lo):List Nat→Option (Fr×Lo×Nat)
 | []=>some ([],l,n')
 | [s]=>match lkE f' s with
  | some ⟨_,_,.ptr u 0⟩=>match lkE l' u,lkE l u,Nat.blt n u with
   | some ⟨_,_,.box ty c⟩,none,true=>match c.isAgg with
    | true=>some ([⟨s,n',.ptr u 0⟩],⟨u,n',.box ty (.agg (ZGc n c.size))⟩ :: l,n'+1)
    | false=>none
   | _,_,_=>none
  | _=>none
 | _=>none
def Z8 (us:List Nat):Lo→Lo
 | []=>[]
 | e :: r=>match ZB us e.k with
  | true=>e :: Z8 us r
  | false=>Z8 us r
def ZDa (f:Fr) (r:Fr):List Nat→Fr
 | []=>r
 | s :: ss=>match lkE f s with
  | some e=>match ZHa e.x with
   | true=>e :: ZDa f r ss
   | false=>ZDa f r ss
  | none=>ZDa f r ss
def Z1e {α:Type} (b:Nat) (ks:List Nat) (ann:Ann) (f:Fr) (l:Lo) (n:Nat) (K:Kt α) (g:List Nat→(β:Type)→Go β):Option α:=match ann with
 | .cut j a=>bnd (g ks (sumT j.outs) a f l n
   {
    norm:=λf' l' n'=>ZUa b n n' f l .norm .nl f' l' j.outs some,
    exit:=λi f' l' n'=>ZUa b n n' f l (.exit i) .nl f' l' j.outs some,
    ret:=λc l' n'=>ZUa b n n' f l .ret c [] l' j.outs some }) λx=>arms b f l n K j.outs x
 | a=>g ks α a f l n K
def Zcd {α:Type} (b:Nat) (ks:List Nat) (ann:Ann) (f:Fr) (l:Lo) (n:Nat) (K:Kt α) (g:List Nat→(β:Type)→Go β):Option α:=match ann with
 | .lend us bs nb fl keep a=>match idsOf f l (us.map Pl.sl) with
  | some ids=>ZL n (Zwe (Zld (.done ()) ids) bs) f l λ_ f1 l1=>Z1e b (keep++ks) a f1 (Z8 ids l1) (n+1)
    {
     norm:=λf' l' n'=>match nbL n n' f' l' l nb with
      | some (fb,lb,m)=>K.norm (fb++ZDa f' (ZZ f keep) fl) lb m
      | none=>none,
     exit:=λi f' _ n'=>K.exit i (ZDa f' (ZZ f keep) fl) l n',
     ret:=λc _ n'=>match ZHa c with
      | true=>K.ret c l n'
      | false=>none } g
  | none=>none
 | a=>Z1e b ks a f l n K g
def rounds {α:Type} (g:(β:Type)→Go β) (a:Ann):Nat→Fr→Lo→Nat→Kt α→Option α
 | 0,_,_,_,_=>none
 | k+1,f,l,n,K=>g α a f l n { K with norm:=λf l n=>rounds g a k f l n K }
def loopI {α:Type} (b:Nat) (ann:Ann) (f:Fr) (l:Lo) (n:Nat) (K:Kt α) (g:(β:Type)→Go β):Option α:=match ann with
 | .cut j a=>Zwb b n n f l f l j.head λz=>bnd (Zl (λs=>build b f l j.head s n λf2 l2 m=>g (jT j.head ⊕ sumT j.outs) a f2 l2 m
    {
     norm:=λf' l' n'=>Zwb b n n' f l f' l' j.head λx=>some (.inl x),
     exit:=λi f' l' n'=>ZUa b n n' f l (.exit i) .nl f' l' j.outs λx=>some (.inr x),
     ret:=λc l' n'=>ZUa b n n' f l .ret c [] l' j.outs λx=>some (.inr x) }) Zu z)
    λx=>arms b f l n K j.outs x
 | .unroll k a=>rounds g a k f l n K
 | _=>none
def opdV (f:Fr) (x:Operand):Option V:=match x with
 | .tmp t=>match lkE f t with
  | some e=>some e.x
  | none=>none
 | .const c=>ZGe c
 | .func g=>some (.fn g .nl)
 | .global _=>none
def ZNe (f:Fr):List Operand→Option V
 | []=>some .nl
 | x :: r=>match opdV f x,ZNe f r with
  | some (.tup _),_=>none
  | some v,some c=>some (.cons v c)
  | _,_=>none
abbrev CallF:=(α:Type)→FuncId→V→Lo→Nat→(V→Lo→Nat→Option α)→Option α
def byCon (C:Cf) (o:Oper) (g:FuncId):Bool:=match o.dst with
 | some d=>match ZB C.mats (d+300000) with
  | true=>false
  | false=>match Zr C.pows g,Zr C.cons g,Zr C.owns g,Zr C.ins g,Zr C.omats g,Zr C.dels g with
   | none,none,none,none,none,none=>false
   | _,_,_,_,_,_=>true
 | none=>true
def Z8c (C:Cf) (f:Fr) (o:Oper):Option (FuncId×V):=match o.op with
 | .call c=>match c.callee with
  | .value x=>match opdV f x with
   | some (.fn g cap)=>match byCon C o g with
    | true=>none
    | false=>match ZNe f c.args.toList with
     | some ags=>some (g,Zyb ags cap)
     | none=>none
   | _=>none
  | _=>none
 | _=>none
def inl1 {α:Type} (cf:CallF) (o:Oper) (g:FuncId) (ags:V) (f:Fr) (l:Lo) (n:Nat) (K:Fr→Lo→Nat→Option α):Option α:=match o.dst with
 | some d=>cf α g ags l (n+1) λr l' m=>K (⟨d,n,ZTa r⟩ :: f) l' m
 | none=>none
def Zae {α:Type} (o:Oper) (f:Fr) (l:Lo) (n:Nat) (K:Fr→Lo→Nat→Option α):Option α:=ZL n (ZRc o) f l λ_ f' l'=>K f' l' (n+1)
def inlG {α:Type} (cf:CallF) (ops:List Oper) (o:Oper) (g:FuncId) (ags:V) (f:Fr) (l:Lo) (n:Nat) (K:Fr→Lo→Nat→Option α):Option α:=match o.guard with
 | none=>inl1 cf o g ags f l n K
 | some (j,w)=>match ops[j]? with
  | some q=>match q.dst with
   | some t=>match lkE f t with
    | some ⟨_,s,.data .bool b⟩=>match w with
     | true=>ifb b (inl1 cf o g ags (⟨t,s,.data .bool true⟩ :: f) l n K) (Zae o (⟨t,s,.data .bool false⟩ :: f) l n K)
     | false=>ifb b (Zae o (⟨t,s,.data .bool true⟩ :: f) l n K) (inl1 cf o g ags (⟨t,s,.data .bool false⟩ :: f) l n K)
    | some ⟨_,_,.undef⟩=>Zae o f l n K
    | _=>none
   | none=>none
  | none=>none
def ZNa {α:Type} (C:Cf) (cf:CallF) (ops:List Oper):List Oper→Fr→Lo→Nat→(Fr→Lo→Nat→Option α)→Option α
 | [],f,l,n,K=>K f l n
 | o :: r,f,l,n,K=>match Z8c C f o with
  | none=>ZL n (gop C ops n o) f l λ_ f l=>ZNa C cf ops r f l (n+1) K
  | some (g,ags)=>inlG cf ops o g ags f l n λf l n=>ZNa C cf ops r f l n K
def Zgc {α:Type} (C:Cf) (ops:List Oper):List Oper→Fr→Lo→Nat→(Fr→Lo→Nat→List Fp→Option α)→Option α
 | [],f,l,n,K=>K f l n []
 | o :: r,f,l,n,K=>Zda n (gop C ops n o) f l Fp.no λ_ f l p=>Zgc C ops r f l (n+1) λf l n ps=>K f l n (p :: ps)
def Zvh (o:Oper):Bool:=match o.op,o.guard with
 | .call c,none=>match c.callee with
  | .value (.tmp _)=>true
  | _=>false
 | _,_=>false
def allB (m:Nat):Nat→Bool
 | 0=>true
 | k+1=>match Nat.testBit m k with
  | true=>allB m k
  | false=>false
def Z8e (ops:List Oper):Option Oper:=match ops.getLast? with
 | none=>none
 | some o=>match Zvh o with
  | false=>none
  | true=>match allB (ZOa (ZW ops.dropLast []) o.after.toList 0) ops.dropLast.length with
   | true=>some o
   | false=>none
def readK:Op→Bool
 | .move _=>true
 | .load _ _=>true
 | .nilCheck _=>true
 | .fieldAddr _ _ _=>true
 | .indexAddr _ _ _=>true
 | .makeFunc _ _ _=>true
 | _=>false
def Z4c (C:Cf) (o:Oper):Bool:=match o.guard,o.dst with
 | none,some _=>match readK o.op,onT C o,onA C o,onQ C o with
  | true,false,false,false=>true
  | _,_,_,_=>false
 | _,_=>false
def flK (k n:Nat):Array Bool:=((List.range n).map λi=>decide (i<k)).toArray
def ancs (ops:List Oper) (k:Nat) (o:Oper):List Nat:=(List.range k).reverse.filter λj=>Nat.testBit (ZOa (ZW (ops.take k) []) o.after.toList 0) j
def midOK (C:Cf) (ops:List Oper) (k:Nat) (o:Oper):Bool:=okF ops.toArray (flK k ops.length)&&(ops.take k).all (Z4c C)&&o.guard.isNone&&Zfc ops.toArray k [] (ancs ops k o)&&(List.range ops.length).all λi=>Nat.ble i k || match ops[i]? with
 | some q=>q.guard.isNone&&(List.range i).all λj=>Zca ops.toArray i j
 | none=>false
def stay1 (P:Program) (q:Oper) (dk:Nat) (f:Fr) (l:Lo):Bool:=match q.op,q.dst with
 | .move (.tmp s),_=>!(Nat.beq s dk)
 | .load t (.tmp s),some d=>!(Nat.beq s dk)&&match szA P t,lkE f s,lkE f d with
  | some _,some ⟨_,_,.ptr u off⟩,some ⟨_,_,.own u2⟩=>match lkE l u,lkE l u2 with
   | some ⟨_,_,.box _ c⟩,some _=>match szA P t with
    | some z=>match ZA FU c off z.1 z.2 with
     | some (.own u3)=>Nat.beq u2 u3
     | _=>false
    | none=>false
   | _,_=>false
  | _,_,_=>false
 | _,_=>false
def stays (P:Program) (ops:List Oper) (k:Nat) (o:Oper) (f:Fr) (l:Lo):Bool:=match o.dst with
 | some dk=>(List.range k).all λj=>(ancs ops k o).contains j || match ops[j]? with
  | some q=>stay1 P q dk f l
  | none=>false
 | none=>false
def imid {α:Type} (C:Cf) (cf:CallF) (ops:List Oper) (k:Nat) (f:Fr) (l:Lo) (n:Nat) (K:Fr→Lo→Nat→Option α):Option α:=match ops[k]? with
 | some o=>match midOK C ops k o with
  | true=>ZNa C cf ops (ops.take k) f l n λf1 l1 n1=>match Z8c C f1 o with
   | some (g,ags)=>inl1 cf o g ags f1 l1 n1 λf2 l2 n2=>match stays C.P ops k o f2 l2 with
    | true=>ZNa C cf ops (ops.drop (k+1)) f2 l2 n2 K
    | false=>none
   | none=>none
  | false=>none
 | none=>none
def midAt (ms:List Nat):List Oper→Nat→Option Nat
 | [],_=>none
 | o :: r,k=>match o.dst with
  | some d=>match ZB ms (d+500000) with
   | true=>some k
   | false=>midAt ms r (k+1)
  | none=>midAt ms r (k+1)
def ZHc (K:Nat) (ks:List Nat):List Oper→Bool
 | []=>true
 | o :: r=>match o.dst with
  | some d=>match Nat.blt d K,ZB ks d with
   | true,false=>ZHc K ks r
   | _,_=>false
  | none=>ZHc K ks r
def ZTg (f:Fr) (l:Lo) (P:Program):ResultVar→Option V
 | .tmp t=>match lkE f t with
  | some e=>some e.x
  | none=>none
 | .cell x t=>match lkE f x with
  | some ⟨_,_,.ptr u 0⟩=>match lkE l u with
   | some ⟨_,_,.box _ c⟩=>match szA P t with
    | some q=>ZA FU c 0 q.1 q.2
    | none=>none
   | _=>none
  | _=>none
def Zjf (f:Fr) (l:Lo) (P:Program):List ResultVar→Option V
 | []=>some .nl
 | r :: rs=>match ZTg f l P r,Zjf f l P rs with
  | some (.tup _),_=>none
  | some v,some c=>some (.cons v c)
  | _,_=>none
def Zaa (C:Cf) (cf:CallF) (rs:List ResultVar) (b N:Nat):Code→List Nat→(α:Type)→Go α
  | .skip,_,_,_,f,l,n,K=>K.norm f l n
  | .label _,_,_,_,f,l,n,K=>K.norm f l n
  | .region _ ops draw,ks,_,ann,f,l,n,K=>Zcd b ks ann f l n K λks _ _ f l n K=>match draw,ZHc N ks ops.toList with
    | false,true=>ZNa C cf ops.toList ops.toList f l n K.norm
    | true,true=>match C.P.follows .mixedOrders,Zvb 0 ops.toList with
      | true,true=>match midAt C.mats ops.toList 0 with
       | some k=>imid C cf ops.toList k f l n K.norm
       | none=>match Z8e ops.toList with
        | none=>Zgc C ops.toList ops.toList f l n λf l n ps=>match ZLb [] (ZW ops.toList []) ps with
          | true=>K.norm f l n
          | false=>none
        | some o=>Zgc C ops.toList ops.toList.dropLast f l n λf l n ps=>match ZLb [] (ZW ops.toList.dropLast []) ps with
          | true=>ZNa C cf ops.toList [o] f l n K.norm
          | false=>none
      | _,_=>none
    | _,false=>none
  | .seq x y,ks,_,ann,f,l,n,K=>Zcd b ks ann f l n K λks β a f l n K=>Zaa C cf rs b N x ks β a.fst f l n { K with norm:=λf l n=>Zaa C cf rs b N y ks β a.snd f l n K }
  | .cond c x y,ks,_,ann,f,l,n,K=>Zcd b ks ann f l n K λks β a f l n K=>match c with
    | .tmp t=>match lkE f t with
      | some ⟨_,s,.data .bool q⟩=>ifb q (Zaa C cf rs b N x ks β a.fst (⟨t,s,.data .bool true⟩ :: f) l n K) (Zaa C cf rs b N y ks β a.snd (⟨t,s,.data .bool false⟩ :: f) l n K)
      | _=>none
    | .const (.bool true)=>Zaa C cf rs b N x ks β a.fst f l n K
    | .const (.bool false)=>Zaa C cf rs b N y ks β a.snd f l n K
    | _=>none
  | .block id x,ks,_,ann,f,l,n,K=>Zcd b ks ann f l n K λks β a f l n K=>Zaa C cf rs b N x ks β a.fst f l n { K with exit:=λi=>match Nat.beq i id with
    | true=>K.norm
    | false=>K.exit i }
  | .loop x,ks,_,ann,f,l,n,K=>loopI b ann f l n K λβ a f l n K=>Zaa C cf rs b N x ks β a.fst f l n K
  | .scope x,ks,_,ann,f,l,n,K=>Zaa C cf rs b N x ks _ ann.fst f l n K
  | .exit i,_,_,_,f,l,n,K=>K.exit i f l n
  | .ret,_,_,_,f,l,n,K=>match Zjf f l C.P rs with
    | some c=>K.ret c l n
    | none=>none
  | _,_,_,_,_,_,_,_=>none
def endN {α:Type} (fn:Func) (K:V→Lo→Nat→Option α) (_:Fr) (l:Lo) (n:Nat):Option α:=match fn.results.toList with
 | []=>K .nl l n
 | _=>none
abbrev Inl:=List (FuncId×Func×Ann)
def selA:Ann→Fr→Ann
 | .sel i a b,f=>match lkE f i with
  | some ⟨_,_,.row _ _ _ _ _ _⟩=>selA a f
  | _=>selA b f
 | a,_=>a
def Z3c (n:Nat):Lo→Bool
 | []=>true
 | e :: r=>match e.x with
  | .box _ _=>match Nat.blt e.st n with
   | true=>Z3c n r
   | false=>false
  | _=>Z3c n r
def callB {α:Type} (cb:ConB) (ags:V) (l:Lo) (n:Nat) (K:V→Lo→Nat→Option α):Option α:=match ags with
 | .cons (.ptr u 0) rest=>ZL n (ZVa cb.args rest λx=>ZCa 0 (.box cb.ty cb.c) u λz=>.bind (cb.F z x) λr=>.done r) [] l λr _ l'=>match Z3c n l' with
  | true=>match Zv 0 (.box cb.ty cb.c) r.1 u (n+1) with
   | (l2,m)=>K (ZLa cb.res r.2) (l2++l') m
  | false=>none
 | _=>none
def ZFe:V→Option (V×V)
 | .cons x .nl=>some (.nl,x)
 | .cons x r=>match ZFe r with
  | some (r',y)=>some (.cons x r',y)
  | none=>none
 | _=>none
def callS {α:Type} (cs:ConS) (ags:V) (l:Lo) (n:Nat) (K:V→Lo→Nat→Option α):Option α:=match ZFe ags with
 | some (rest,.own u)=>ZL n (ZVa cs.args rest λx=>ZCa 0 (.own cs.ty cs.t) u λz=>.bind (cs.F z x) λr=>.done r) [] l λr _ l'=>match Z3c n l' with
  | true=>match Zv 0 (.own cs.ty cs.t) r.1 u (n+1) with
   | (l2,m)=>K (ZLa cs.res r.2) (l2++l') m
  | false=>none
 | _=>none
def Z2b (C:Cf) (inl:Inl):Nat→CallF
  | 0,_,_,_,_,_,_=>none
  | d+1,α,g,ags,l,n,K=>match Zr C.boxs g with
    | some cb=>callB cb ags l n K
    | none=>match Zr C.sls g with
     | some cs=>callS cs ags l n K
     | none=>match Zr inl g with
      | some (fn,ann)=>match fn.body,Nat.ble (lenV ags) fn.ntmps with
        | some c,true=>Zaa C (Z2b C inl d) fn.results.toList n fn.ntmps c [] α (selA ann (Zla n 0 ags)) (Zla n 0 ags) l (n+1) ⟨endN fn K,λ_ _ _ _=>none,K⟩
        | _,_=>none
      | none=>none
def Zsa:(ts:List T)→Zk ts→V
 | [],_=>.nl
 | [t],x=>.cons (.data t x) .nl
 | t :: u :: r,x=>.cons (.data t x.1) (Zsa (u :: r) x.2)
def ZNg (C:Cf) (inl:Inl) (fn:Func) (ann:Ann) (ats rts:List T) (x:Zk ats):Option (Zk rts):=match fn.body with
 | some c=>Zaa C (Z2b C inl 20) fn.results.toList 0 fn.ntmps c [] _ ann (Zla 0 0 (Zsa ats x)) [] 1 ⟨λ_ _ _=>none,λ_ _ _ _=>none,λc l n=>ZL n (ZVa rts c λy=>.done y) [] l λy _ _=>some y⟩
 | none=>none
variable {P:Program} {K:Nat} {w0:Base} {v0:Za} {σ:List (Nat×Value)} {ℓ:List Loc} {v:Za} {a:Act} {w:World}
def OwnR {α:Type} (A:Rep α) (T:TypeId) (sz:Nat) (l:List α) (w:World) (r:Value) (v':Za) (w':World):Prop :=
 ∃ ob n cap cs,r = .slice (mkA ob) n cap∧(Loc.own ob T sz n cap cs).holds w'∧(∀ b,ob=some b→w.heap.size≤b∧v' b=none)∧A.rels v' cs l∧n=l.length
def RetO (P:Program) (f:FuncId) (args:Array Value) (w:World) (v:Za) (R:Value→Za→World→Prop):Prop :=
 Calls P f args w λe w'=>∃ r v',e = .returned r∧Ext w w'∧VStep w v w' v'∧R r v' w'
theorem ZBh {f:FuncId} {fn:Func} {c:Code} {args:List Value} {w:World} {v:Za} {R:Value→Za→World→Prop} (hv:VIn v w) (hf:P.funcs[f]? = some fn) (hb:fn.body=some c) (hK:fn.ntmps=K) (hl:args.length≤K)
  (h:∀ a,St K w v (ZXa 0 args) [] v a w→c.wp P (bodyPost P fn λe w'=>∃ r v',e = .returned r∧Ext w w'∧VStep w v w' v'∧R r v' w') a w):RetO P f args.toArray w v R :=
 calls_of_wp hf hb (by subst hK;exact h _ (St.enter hv args hl))
theorem Zhf {α:Type} {A:Rep α} {w0:World} {fn:Func} (hS:St K w0 v0 σ ℓ v a w) {i n cap sz:Nat} {ob:Option Nat} {T:TypeId} {cs:List Value} {l:List α} (hi:ℓ[i]? = some (.own ob T sz n cap cs)) (hr:(results fn a.tmps).run P w = .ok (.slice (mkA ob) n cap) w) (hA:A.rels v cs l) (hn:n=l.length) :
  bodyPost P fn (λe w'=>∃ r v',e = .returned r∧Ext w0 w'∧VStep w0 v0 w' v'∧OwnR A T sz l w0 r v' w') .ret a w:=by
 obtain⟨hh,hb⟩:=hS.loc _ (mG hi);refine⟨hS.dfr,_,hr,_,v,rfl,hS.ext.ext,hS.vst.ext,ob,n,cap,cs,rfl,hh,λb e=>?_,hA,hn⟩;obtain⟨h1,h2⟩:=hb b e;rcases h1 with h1 | h1
 ·exact⟨h1,h2⟩
 ·exact absurd h1 (by simp)
end Go.Eng
