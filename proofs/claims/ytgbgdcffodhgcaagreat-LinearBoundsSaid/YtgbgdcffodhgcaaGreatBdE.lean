/- Lemmas towards the statement: the engine of the walks, the functions' models, laws and walks, part 5. Conditions: as each states. -/
import Derived.Test.YtgbgdcffodhgcaaGreatBdD
set_option linter.all false
set_option maxRecDepth 100000
namespace Go.Eng
theorem st0_cd {m n k:Nat} {A:Mx} {B C:Nat→Rat} (hA:∀ i j,i<m→j<n→sz k (A i j)) (hB:∀ i,i<m→sz k (B i)) (hC:∀ j,j<n→sz k (C j)) (hk:1≤k):(st0 n A B C).cd (k*((m+1)*(n+1))+1) m n:=by
 have h:=CD_of (k:=k) (R:=m+1) (n:=n+1) (M:=fun i j=>if i<m then (if j<n then A i j else B i) else if j<n then C j else 0) fun i j hi hj=>by
  show sz k (if i<m then (if j<n then A i j else B i) else if j<n then C j else 0);split
  ·rename_i h1;split
   ·rename_i h2;exact hA i j h1 h2
   ·exact hB i h1
  ·split
   ·rename_i h2;exact hC j h2
   ·exact Z0d.mono hk
 obtain ⟨D,d0,d1,d2⟩:=h;simp only at d2;refine ⟨D,d0,d1,fun i j hi hj=>?_,fun i hi=>?_,fun j hj=>?_,?_⟩
 ·have:=d2 i j (by omega) (by omega);rw [if_pos hi,if_pos hj] at this;exact this
 ·have:=d2 i n (by omega) (by omega);rw [if_pos hi,if_neg (by omega)] at this;exact this
 ·have:=d2 m j (by omega) (by omega);rw [if_neg (by omega),if_pos hj] at this;exact this
 ·exact ⟨0,by rw [Rat.div_def];exact (Rat.zero_mul _).symm,Nat.two_pow_pos _⟩
noncomputable def Zpd (x:List Rat) (y:List Rat):Option Rat :=
 bnd (ZOa (0:Int)) fun b =>
 bnd (Zg (σ:=Int×Rat) (ρ:=Rat) (fun a =>
 ifb (decide (a.1<(x.length:Int)))
 (bnd (idx x a.1) fun c =>
 bnd (idx y a.1) fun d =>
 bnd (Zra c d) fun e =>
 bnd (ZOb a.2 e) fun f =>
 bnd (chk .i64 (a.1+(1:Int))) fun g =>
 some (.inl (g,f)))
 (some (.inr a.2)))
  Zh ((0:Int),b)) fun h =>
 some h
noncomputable def ZTh (m:List (List Rat)) (x:List Rat):Option (List Rat) :=
 bnd (Zg (σ:=(List Rat)×Int) (ρ:=List Rat) (fun a =>
 ifb (decide (a.2<(m.length:Int)))
 (bnd (idx m a.2) fun c =>
 bnd (Zpd c x) fun b =>
 bnd (ZC 56 (a.1++[b])) fun _ =>
 bnd (chk .i64 (a.2+(1:Int))) fun d =>
 some (.inl (a.1++[b],d)))
 (some (.inr a.1)))
  Zh (([]:List Rat),(0:Int))) fun e =>
 some e
noncomputable def ZQe (x:List Rat):Option Bool :=
 bnd (α:=Int)
 (bnd (Zg (σ:=Int) (ρ:=Unit ⊕ Int) (fun a =>
 ifb (decide (a<(x.length:Int)))
 (bnd (idx x a) fun b =>
 bnd (Zbb b) fun c =>
 ifb (decide (c<(0:Int)))
 (some (.inr (.inr a)))
 (bnd (chk .i64 (a+(1:Int))) fun d =>
 some (.inl d)))
 (some (.inr (.inl ()))))
   Zh (0:Int)) fun e =>
  match e with
| .inl h=>(some (-1:Int))
| .inr f=>(some f)) fun g =>
 some (!(decide ((0:Int)≤g)))
noncomputable def Zlg (x:List Rat) (y:List Rat):Option Bool :=
 bnd (Zg (σ:=Int) (ρ:=Unit ⊕ Bool) (fun a =>
 ifb (decide (a<(x.length:Int)))
 (bnd (idx x a) fun b =>
 bnd (idx y a) fun c =>
 bnd (ZRc b c) fun d =>
 ifb (decide ((0:Int)<d))
 (some (.inr (.inr false)))
 (bnd (chk .i64 (a+(1:Int))) fun e =>
 some (.inl e)))
 (some (.inr (.inl ()))))
  Zh (0:Int)) fun f =>
 match f with
| .inl h=>(some true)
| .inr g=>(some g)
noncomputable def Zph (p:(List (List Rat))×(List Rat)×(List Rat)) (x:List Rat):Option Bool :=
 bnd (α:=Bool)
 (bnd (ZQe x) fun a =>
 ifb a
 (bnd (ZTh p.1 x) fun b =>
 bnd (Zlg b p.2.1) fun c =>
 some c)
 (some false)) fun d =>
 some d
noncomputable def Zoi (p:(List (List Rat))×(List Rat)×(List Rat)) (y:List Rat):Option (List Rat) :=
 bnd (ZRf (p.2.2.length:Int)) fun d =>
 bnd (Zg (σ:=Int×(List Rat)) (ρ:=List Rat) (fun b =>
 ifb (decide (b.1<(p.1.length:Int)))
 (bnd (idx p.1 b.1) fun c =>
 bnd (Zg (σ:=Int×(List Rat)) (ρ:=List Rat) (fun a =>
 ifb (decide (a.1<(c.length:Int)))
 (bnd (idx c a.1) fun e =>
 bnd (idx a.2 a.1) fun f =>
 bnd (idx y b.1) fun g =>
 bnd (Zra g e) fun h =>
 bnd (ZOb f h) fun i =>
 bnd (idx a.2 a.1) fun n =>
 bnd (chk .i64 (a.1+(1:Int))) fun j =>
 some (.inl (j,a.2.set a.1.toNat i)))
 (some (.inr a.2)))
     Zh ((0:Int),b.2)) fun k =>
 bnd (chk .i64 (b.1+(1:Int))) fun l =>
 some (.inl (l,k)))
 (some (.inr b.2)))
  Zh ((0:Int),d)) fun m =>
 some m
noncomputable def ZVh (p:(List (List Rat))×(List Rat)×(List Rat)) (y:List Rat):Option Bool :=
 bnd (α:=Bool)
 (ifb ((y.length:Int)==(p.2.1.length:Int))
 (bnd (ZQe y) fun a =>
 ifb a
 (bnd (Zoi p y) fun b =>
 bnd (Zlg p.2.2 b) fun c =>
 some c)
 (some false))
 (some false)) fun d =>
 some d
noncomputable def ZUd (p:(List (List Rat))×(List Rat)×(List Rat)):Option Int :=
 bnd (α:=Bool)
 (ifb ((p.1.length:Int) != (p.2.1.length:Int))
 (some true)
 (ifb (decide ((12:Int)<(p.2.1.length:Int)))
 (some true)
 (ifb (decide ((48:Int)<(p.2.2.length:Int)))
 (some true)
 (bnd (α:=Int)
 (bnd (Zg (σ:=Int) (ρ:=Unit ⊕ Int) (fun a =>
 ifb (decide (a<(p.1.length:Int)))
 (bnd (idx p.1 a) fun b =>
 ifb ((b.length:Int) != (p.2.2.length:Int))
 (some (.inr (.inr a)))
 (bnd (chk .i64 (a+(1:Int))) fun c =>
 some (.inl c)))
 (some (.inr (.inl ()))))
       Zh (0:Int)) fun d =>
      match d with
| .inl h=>(some (-1:Int))
| .inr e=>(some e)) fun f =>
 some (decide ((0:Int)≤f)))))) fun g =>
 ifb g
 (some (4:Int))
 (some (0:Int))
noncomputable def Zqe (p:(List (List Rat))×(List Rat)×(List Rat)):Option ((Int×Rat×(List Rat)×(List Rat)×(List Rat))×Int) :=
 bnd (ZUd p) fun a =>
 ifb (a != (0:Int))
 (some (((0:Int),(0:Rat),([]:List Rat),([]:List Rat),([]:List Rat)),a))
 (bnd (Z8h p) fun b =>
 some (b,(0:Int)))
theorem dotS {k m n:Nat} {f g:Nat→Rat} (hf:∀ j,j<n→sz k (f j)) (hg:∀ j,j<n→sz m (g j)) (hn:n≤1000) (hk:(n+1)*(k+m+1)≤1099511627776):Zpd (vx n f) (vx n g)=some (sm n fun j=>f j*g j):=by
 unfold Zpd;rw [Zfc,Za,Zl];refine Zu (Zma (fun q=>((q:Int),sm q fun j=>f j*g j)) n rfl (by omega) (fun q hq=>?_) ?_) rfl
 ·have z1:=Zzb (hf q hq) (hg q hq);have z2:sz (q*(k+m+1)+1) (sm q fun j=>f j*g j):=smz fun j hj=>Zzb (hf j (by omega)) (hg j (by omega));have z3:q*(k+m+1)≤n*(k+m+1):=Nat.mul_le_mul_right _ (by omega);rw [Nat.succ_mul] at hk;simp only;rw [decide_eq_true (by omega),Ze,Zs _ hq,Za,Zs _ hq,Za,Z3b (hf q hq) (hg q hq) (by omega) (by omega),Za,Z2g z2 z1 (by omega) (by omega),Za,Zm (by omega) (by omega),Za];rfl
 ·simp only;rw [decide_eq_false (by omega),Zf]
theorem timesS {k m R n:Nat} {M:Mx} {x:Nat→Rat} (hM:∀ i j,i<R→j<n→sz k (M i j)) (hx:∀ j,j<n→sz m (x j)) (hR:R≤1000) (hn:n≤1000) (hk:(n+1)*(k+m+1)≤1099511627776) :
  ZTh (mx R n M) (vx n x)=some (vx R fun i=>sm n fun j=>M i j*x j):=by
 unfold ZTh;refine Zu (Zma (fun q=>(vx q fun i=>sm n fun j=>M i j*x j,(q:Int))) R rfl (by omega) (fun q hq=>?_) ?_) rfl
 ·simp only [Z6a];rw [decide_eq_true (by omega),Ze,Zab _ hq,Za,dotS (hM q · hq ·) hx hn hk,Za,ZUc q (fun i=>sm n fun j=>M i j*x j),Zsa (by rw [Zl];omega),Za,Zm (by omega) (by omega),Za];rfl
 ·simp only [Z6a];rw [decide_eq_false (by omega),Zf]
theorem ZBq {n:Nat} {x:Nat→Rat} (hn:n≤1000):∃ b,ZQe (vx n x)=some b∧(b=true ↔ ∀ k,k<n→0≤x k):=by
  unfold ZQe;obtain ⟨e,g1,g2⟩:=ZDf (body:=fun s1 =>
    ifb (decide (s1<((vx n x).length:Int)))
    (bnd (idx (vx n x) s1) fun y2 =>
     bnd (Zbb y2) fun y3 =>
     ifb (decide (y3<(0:Int)))
     (some (.inr (.inr s1)))
     (bnd (chk .i64 (s1+(1:Int))) fun y4 =>
      some (.inl y4)))
    (some (.inr (.inl ())))) n hn (fun k=>x k<0) (fun k hk=>by
      rw [Zl,decide_eq_true (by omega),Ze,Zs _ hk,Za];unfold Zbb;rw [Za];by_cases e:x k<0
      · exact .inl ⟨e,by rw [decide_eq_true ((Zid _).2 e),Ze]⟩
      · exact .inr ⟨e,by rw [decide_eq_false (fun h=>e ((Zid _).1 h)),Zf,Zm (by omega) (by omega),Za];rfl⟩) (by rw [Zl,decide_eq_false (by omega),Zf])
  refine ZG g1 ?_;rcases g2 with ⟨rfl,h⟩ | ⟨k,hk,rfl,h⟩
  · exact ⟨_,rfl,by simp;exact fun k hk=>Rat.not_lt.1 (h k hk)⟩
  · refine ⟨_,rfl,?_⟩;rw [decide_eq_true (show (0:Int)≤(k:Int) by omega)];simp;exact ⟨k,hk,Rat.not_le.2 h⟩
theorem Zgs {n N K:Nat} {f g:Nat→Rat} (hf:∀ k,k<n→sz K (f k)) (hg:∀ k,k<n→sz K (g k)) (hn:n≤1000) (hN:n≤N) (hK:K≤1099511627776):∃ b,Zlg (vx n f) (vx N g)=some b∧(b=true ↔ ∀ k,k<n→f k≤g k):=by
 unfold Zlg;refine ZIh (fun k s=>s=(k:Int)∧∀ j,j<k→f j≤g j) (fun r=>(r = .inl ()∧∀ j,j<n→f j≤g j)∨(r = .inr false∧∃ j,j<n∧¬ f j≤g j)) n ⟨rfl,fun j hj=>by omega⟩ (by omega) (fun k s hk hI=>?_) (fun r hr=>?_)
 ·obtain ⟨rfl,hI⟩:=hI;by_cases hlt:k<n
  ·rw [Zl,decide_eq_true (by omega),Ze,Zs _ hlt,Za,Zs _ (by omega),Za,Z9h (hf k hlt) (hg k hlt) hK hK,Za];by_cases e:f k≤g k
   ·refine .inl ⟨_,hlt,by rw [decide_eq_false (fun h=>by have:=(Zkf _).1 h;grind),Zf,Zm (by omega) (by omega),Za],by rfl,fun j hj=>?_⟩;by_cases e2:j=k
    ·rw [e2];exact e
    ·exact hI j (by omega)
   ·exact .inr ⟨_,by rw [decide_eq_true ((Zkf _).2 (by have:=Rat.not_le.1 e;grind)),Ze],.inr ⟨rfl,k,hlt,e⟩⟩
  ·have:k=n:=by omega
   subst this;exact .inr ⟨_,by rw [Zl,decide_eq_false (by omega),Zf],.inl ⟨rfl,hI⟩⟩
 ·rcases hr with ⟨rfl,h⟩ | ⟨rfl,j,hj,h⟩
  ·exact ⟨true,rfl,by simp;exact h⟩
  ·refine ⟨false,rfl,?_⟩;simp;exact ⟨j,hj,h⟩
variable {m n:Nat} {A:Mx} {B C:Nat→Rat}
theorem psumsS {K k mb q:Nat} {y:Nat→Rat} (hA:∀ i j,i<m→j<n→sz K (A i j)) (hy:∀ i,i<m→sz k (y i)) (hm:m≤1000) (hn:n≤1000) (hq:m≤q) (hk:(m+1)*(K+k+1)≤1099511627776) :
  Zoi (mx m n A,vx mb B,vx n C) (vx q y)=some (vx n fun j=>sm m fun i=>y i*A i j):=by
 unfold Zoi;refine Zu (y:=vx n fun _=>(0:Rat)) (by simp only [Zl];exact Zkl hn) ?_;have hk1:K+k+1≤1099511627776:=Nat.le_trans (Nat.le_mul_of_pos_left _ (by omega)) hk;rw [Nat.succ_mul] at hk;refine Zu (Zma (fun i=>((i:Int),vx n fun j=>sm i fun i=>y i*A i j)) m rfl (by omega) (fun i hi=>?_) ?_) rfl
 ·simp only;rw [Z6a,decide_eq_true (by omega),Ze,Zab _ hi,Za];refine Zu (y:=vx n fun j=>sm (i+1) fun i=>y i*A i j) (Zma (fun l=>((l:Int),vx n fun j=>if j<l then sm (i+1) (fun i=>y i*A i j) else sm i (fun i=>y i*A i j))) n ?_ (by omega) (fun l hl=>?_) ?_) (by rw [Zm (by omega) (by omega),Za];rfl)
  ·exact Prod.ext rfl (Zx fun j hj=>if_neg (by omega))
  ·have z1:sz (K+k) (y i*A i l):=(Zzb (hy i hi) (hA i l hi hl)).mono (by omega);have z2:sz (i*(K+k+1)+1) (sm i fun i=>y i*A i l):=smz fun j hj=>(Zzb (hy j (by omega)) (hA j l (by omega) hl)).mono (by omega);have z3:i*(K+k+1)≤m*(K+k+1):=Nat.mul_le_mul_right _ (by omega);simp only;rw [Zl,decide_eq_true (by omega),Ze,Zs _ hl,Za,Zs _ hl,Za,Zs _ (by omega),Za,if_neg (by omega),Z3b (hy i hi) (hA i l hi hl) (by omega) (by omega),Za,Z2g z2 z1 (by omega) (by omega),Za,Za,Zm (by omega) (by omega),Za];simp only [Int.toNat_natCast];rw [Zza];refine congrArg (fun x=>some (Sum.inl x)) (Prod.ext (by simp) (Zx fun j hj=>?_));by_cases e:j=l
   ·rw [if_pos e,if_pos (by omega),e];rfl
   ·rw [if_neg e];by_cases e2:j<l
    ·rw [if_pos e2,if_pos (by omega)]
    ·rw [if_neg e2,if_neg (by omega)]
  ·simp only;rw [Zl,decide_eq_false (by omega),Zf];exact congrArg (fun x=>some (Sum.inr x)) (Zx fun j hj=>if_pos hj)
 ·simp only;rw [Z6a,decide_eq_false (by omega),Zf]
theorem Znl {K k n:Nat} {f g:Nat→Rat} (hf:∀ j,j<n→sz K (f j)) (hg:∀ j,j<n→sz k (g j)):sz ((n+1)*(K+k+1)) (sm n fun j=>f j*g j):=by
 have:=smz (n:=n) fun j hj=>Zzb (hf j hj) (hg j hj);exact this.mono (by rw [Nat.succ_mul];omega)
theorem pkeepsS {K k:Nat} {x:Nat→Rat} (hA:∀ i j,i<m→j<n→sz K (A i j)) (hB:∀ i,i<m→sz K (B i)) (hx:∀ j,j<n→sz k (x j)) (hm:m≤1000) (hn:n≤1000) (hk:(n+1)*(K+k+1)≤1099511627776) :
  ∃ b,Zph (mx m n A,vx m B,vx n C) (vx n x)=some b∧(b=true↔Feas m n A B x):=by
 unfold Zph;obtain ⟨b,g1,g2⟩:=ZBq (x:=x) hn;have hK:K≤(n+1)*(K+k+1):=Nat.le_trans (by omega) (Nat.le_mul_of_pos_left _ (by omega));rw [g1,Za]
 cases b with
 | false =>
  refine ⟨false,rfl,?_⟩;simp;intro h;have:=g2.2 h.nn
  cases this
 | true =>
  rw [Ze];rw [timesS hA hx hm hn hk,Za];obtain ⟨b,g3,g4⟩:=Zgs (n:=m) (N:=m) (K:=(n+1)*(K+k+1)) (fun i hi=>Znl (hA i · hi ·) hx) (fun i hi=>(hB i hi).mono hK) hm (Nat.le_refl m) hk;rw [g3];exact ⟨b,rfl,g4.trans ⟨fun h=>⟨g2.1 rfl,h⟩,fun h=>h.le⟩⟩
theorem pdualS {K k q:Nat} {y:Nat→Rat} (hA:∀ i j,i<m→j<n→sz K (A i j)) (hC:∀ i,i<n→sz K (C i)) (hy:∀ j,j<q→sz k (y j)) (hm:m≤1000) (hn:n≤1000) (hk:(m+1)*(K+k+1)≤1099511627776) :
  ∃ b,ZVh (mx m n A,vx m B,vx n C) (vx q y)=some b∧(b=true↔q=m∧Dual m n A B C y):=by
 unfold ZVh;simp only [Zl];by_cases e:q=m
 ·subst e;rw [show ((q:Int)==(q:Int))=true by simp,Ze];obtain ⟨b,g1,g2⟩:=ZBq (x:=y) hm;have hK:K≤(q+1)*(K+k+1):=Nat.le_trans (by omega) (Nat.le_mul_of_pos_left _ (by omega));rw [g1,Za]
  cases b with
  | false =>
   refine ⟨false,rfl,?_⟩;simp;intro h;have:=g2.2 h.nn
   cases this
  | true =>
   rw [Ze,psumsS hA hy hm hn (Nat.le_refl q) hk,Za];obtain ⟨b,g3,g4⟩:=Zgs (n:=n) (N:=n) (K:=(q+1)*(K+k+1)) (f:=C) (g:=fun j=>sm q fun i=>y i*A i j) (fun j hj=>(hC j hj).mono hK) (fun j hj=>(Znl (K:=k) (k:=K) hy fun i hi=>hA i j hi hj).mono (by rw [Nat.add_comm k K];exact Nat.le_refl _)) hn (Nat.le_refl n) hk;rw [g3];exact ⟨b,rfl,g4.trans ⟨fun h=>⟨rfl,g2.1 rfl,h⟩,fun h=>h.2.le⟩⟩
 ·rw [show ((q:Int)==(m:Int))=false by simp;omega,Zf];exact ⟨false,rfl,by simp [e]⟩
def Z6i {α β γ:Type} (a:List (List α)) (b:List β) (c:List γ):Prop:=a.length=b.length∧b.length≤12∧c.length≤48∧∀ r,r ∈ a→r.length=c.length
theorem LValidS {a:List (List Rat)} {b c:List Rat} (ha:a.length≤1000):∃ e,ZUd (a,b,c)=some e∧((Z6i a b c∧e=0)∨(¬ Z6i a b c∧e=4)):=by
  unfold ZUd;simp only;by_cases h1:a.length=b.length
  · rw [show ((a.length:Int) != (b.length:Int))=false by simp [h1],Zf];by_cases h2:b.length≤12
    · rw [decide_eq_false (show ¬ (12:Int)<(b.length:Int) by omega),Zf];by_cases h3:c.length≤48
      · rw [decide_eq_false (show ¬ (48:Int)<(c.length:Int) by omega),Zf];obtain ⟨e,g1,g2⟩:=ZDf (body:=fun s1 =>
        ifb (decide (s1<(a.length:Int)))
        (bnd (idx a s1) fun y2 =>
         ifb ((y2.length:Int) != (c.length:Int))
         (some (.inr (.inr s1)))
         (bnd (chk .i64 (s1+(1:Int))) fun y3 =>
          some (.inl y3)))
        (some (.inr (.inl ())))) a.length ha (fun k=>∃ r,a[k]? = some r∧r.length≠c.length) (fun k hk=>by
          rw [decide_eq_true (by omega),Ze,Zw hk,Za];by_cases e:a[k].length=c.length
          · refine .inr ⟨fun ⟨r,hr,hl⟩=>?_,?_⟩
            · rw [List.getElem?_eq_getElem hk] at hr;cases hr;exact hl e
            · rw [show ((a[k].length:Int) != (c.length:Int))=false by simp [e],Zf,Zm (by omega) (by omega),Za];rfl
          · exact .inl ⟨⟨_,List.getElem?_eq_getElem hk,e⟩,by rw [show ((a[k].length:Int) != (c.length:Int))=true by simp;omega,Ze]⟩) (by rw [decide_eq_false (by omega),Zf])
        refine ZG (y:=decide ((0:Int)≤e)) (Zu g1 rfl) ?_;rcases g2 with ⟨rfl,h⟩ | ⟨k,hk,rfl,h⟩
        · refine ⟨0,rfl,.inl ⟨⟨h1,h2,h3,fun r hr=>?_⟩,rfl⟩⟩;obtain ⟨k,hk,e⟩:=List.mem_iff_getElem.1 hr;exact Classical.byContradiction fun hn=>h k hk ⟨r,by rw [List.getElem?_eq_getElem hk,e],hn⟩
        · refine ⟨4,by rw [decide_eq_true (by omega),Ze],.inr ⟨fun hv=>?_,rfl⟩⟩;obtain ⟨r,hr,hl⟩:=h;exact hl (hv.2.2.2 r (List.mem_of_getElem? hr))
      · rw [decide_eq_true (show (48:Int)<(c.length:Int) by omega),Ze,Za,Ze];exact ⟨4,rfl,.inr ⟨fun hv=>h3 hv.2.2.1,rfl⟩⟩
    · rw [decide_eq_true (show (12:Int)<(b.length:Int) by omega),Ze,Za,Ze];exact ⟨4,rfl,.inr ⟨fun hv=>h2 hv.2.1,rfl⟩⟩
  · rw [show ((a.length:Int) != (b.length:Int))=true by simp;omega,Ze,Za,Ze];exact ⟨4,rfl,.inr ⟨fun hv=>h1 hv.1,rfl⟩⟩
theorem Zvi {a:List (List Rat)} {b c:List Rat} (h:Z6i a b c):ZUd (a,b,c)=some 0:=by
 obtain ⟨e,g1,g2⟩:=LValidS (a:=a) (b:=b) (c:=c) (by have:=h.1;have:=h.2.1;omega);rcases g2 with ⟨_,rfl⟩ | ⟨g2,_⟩
 ·exact g1
 ·exact absurd h g2
theorem Zmj (hm:m≤12) (hn:n≤48):Z6i (mx m n A) (vx m B) (vx n C):=by
 refine ⟨by rw [Z6a,Zl],by rw [Zl];exact hm,by rw [Zl];exact hn,fun r hr=>?_⟩;obtain ⟨i,_,rfl⟩:=List.mem_map.1 hr;rw [Zl,Zl]
theorem Zzh {n:Nat} {f g:Nat→Rat} (h:∀ k,k<n→f k≤g k):sm n f≤sm n g:=by
 have:=Zrh (n:=n) (f:=fun k=>g k-f k) fun k hk=>by have:=h k hk;grind
 rw [Zpj] at this;grind
theorem ZOk (y x:Nat→Rat):sm n (fun k=>sm m (fun i=>y i*A i k)*x k)=sm m (fun i=>y i*sm n (fun k=>A i k*x k)):=by
 have e1:sm n (fun k=>sm m (fun i=>y i*A i k)*x k)=sm n (fun k=>sm m (fun i=>y i*(A i k*x k))):=Zaa fun k _=>by
  rw [Rat.mul_comm,← Zqc];exact Zaa fun i _=>by grind
 rw [e1,ZQm];exact Zaa fun i _=>by rw [Zqc]
theorem weak {x y:Nat→Rat} (hx:Feas m n A B x) (hy:Dual m n A B C y):sm n (fun k=>C k*x k)≤sm m (fun i=>B i*y i):=by
 have h1:sm n (fun k=>C k*x k)≤sm n (fun k=>sm m (fun i=>y i*A i k)*x k):=Zzh fun k hk=>Rat.mul_le_mul_of_nonneg_right (hy.le k hk) (hx.nn k hk);rw [ZOk] at h1;have h2:sm m (fun i=>y i*sm n (fun k=>A i k*x k))≤sm m (fun i=>B i*y i):=Zzh fun i hi=>by
  have:=Rat.mul_le_mul_of_nonneg_left (hx.le i hi) (hy.nn i hi);grind
 grind
theorem Znn {x y:Nat→Rat} (hy:Farkas m n A B y) (hx:Feas m n A B x):False:=by
 have h1:0≤sm n (fun k=>sm m (fun i=>y i*A i k)*x k):=Zrh fun k hk=>Rat.mul_nonneg (hy.le k hk) (hx.nn k hk);rw [ZOk] at h1;have h2:sm m (fun i=>y i*sm n (fun k=>A i k*x k))≤sm m (fun i=>B i*y i):=Zzh fun i hi=>by
  have:=Rat.mul_le_mul_of_nonneg_left (hx.le i hi) (hy.nn i hi);grind
 have:=hy.neg;grind
theorem Zls {y d:Nat→Rat} (hy:Dual m n A B C y) (hd:IsRay m n A C d):False:=by
 have h1:sm n (fun k=>C k*d k)≤sm n (fun k=>sm m (fun i=>y i*A i k)*d k):=Zzh fun k hk=>Rat.mul_le_mul_of_nonneg_right (hy.le k hk) (hd.nn k hk);rw [ZOk] at h1;have h2:sm m (fun i=>y i*sm n (fun k=>A i k*d k))≤0:=by
  have:=Zzh (n:=m) (f:=fun i=>y i*sm n (fun k=>A i k*d k)) (g:=fun _=>0) fun i hi=>by
   have:=Rat.mul_le_mul_of_nonneg_left (hd.le i hi) (hy.nn i hi);grind
  rw [Z9 (f:=fun _=>(0:Rat)) fun _ _=>rfl] at this;exact this
 have:=hd.pos;grind
noncomputable def Z1e (x:Rat):Option (Rat×Rat×Rat×Rat) :=
 bnd (ZKb (0:Int)) fun a =>
 bnd (ZKb (0:Int)) fun b =>
 bnd (ZKb (0:Int)) fun c =>
 some (x,a,b,c)
noncomputable def Zni (x:Rat):Option ((Rat×Rat×Rat×Rat)×Rat×Rat×Rat×Rat) :=
 bnd (Z1e x) fun a =>
 bnd (ZKb (0:Int)) fun b =>
 bnd (Z1e b) fun c =>
 some (a,c)
noncomputable def ZOe (l:List (Int×Int)):Option ((List Rat)×(List ((Rat×Rat×Rat×Rat)×Rat×Rat×Rat×Rat))) :=
 bnd (Zg (σ:=(List Rat)×(List ((Rat×Rat×Rat×Rat)×Rat×Rat×Rat×Rat))×Int) (ρ:=(List Rat)×(List ((Rat×Rat×Rat×Rat)×Rat×Rat×Rat×Rat))) (fun a =>
 ifb (decide (a.2.2<(l.length:Int)))
 (bnd (idx l a.2.2) fun b =>
 bnd (ZBf b) fun c =>
 bnd (ZC 56 (a.1++[c])) fun _ =>
 bnd (rofF b) fun f =>
 bnd (Zni f) fun d =>
 bnd (ZC 448 (a.2.1++[d])) fun _ =>
 bnd (chk .i64 (a.2.2+(1:Int))) fun g =>
 some (.inl (a.1++[c],a.2.1++[d],g)))
 (some (.inr (a.1,a.2.1))))
  Zh (([]:List Rat),([]:List ((Rat×Rat×Rat×Rat)×Rat×Rat×Rat×Rat)),(0:Int))) fun e =>
 some (e.1,e.2)
noncomputable def Z2e (m:List (List (Int×Int))):Option ((List (List Rat))×(List (List ((Rat×Rat×Rat×Rat)×Rat×Rat×Rat×Rat)))) :=
 bnd (mk 24 (m.length:Int) (m.length:Int)) fun _ =>
 bnd (mk 24 (m.length:Int) (m.length:Int)) fun _ =>
 bnd (Zg (σ:=Int×(List (List Rat))×(List (List ((Rat×Rat×Rat×Rat)×Rat×Rat×Rat×Rat)))) (ρ:=(List (List Rat))×(List (List ((Rat×Rat×Rat×Rat)×Rat×Rat×Rat×Rat)))) (fun a =>
 ifb (decide (a.1<(m.length:Int)))
 (bnd (idx m a.1) fun d =>
 bnd (ZOe d) fun b =>
 bnd (idx a.2.1 a.1) fun f =>
 bnd (idx a.2.2 a.1) fun g =>
 bnd (chk .i64 (a.1+(1:Int))) fun e =>
 some (.inl (e,a.2.1.set a.1.toNat b.1,a.2.2.set a.1.toNat b.2)))
 (some (.inr (a.2.1,a.2.2))))
  Zh ((0:Int),List.replicate (m.length:Int).toNat ([]:List Rat),List.replicate (m.length:Int).toNat ([]:List ((Rat×Rat×Rat×Rat)×Rat×Rat×Rat×Rat)))) fun c =>
 some (c.1,c.2)
set_option maxRecDepth 100000
theorem ZEs {α:Type} (x y:Option α):ifb (!true) x y=y:=Zf x y
theorem ifb_nf {α:Type} (x y:Option α):ifb (!false) x y=x:=Ze x y
abbrev SR:=Rat×Rat×Rat×Rat
abbrev WR:=(Rat×Rat×Rat×Rat)×Rat×Rat×Rat×Rat
def wq (q:Rat):WR:=((q,0,0,0),0,0,0,0)
theorem Zwu (q:Rat):Zni q=some (wq q):=by
 unfold Zni Z1e ZKb;rfl
theorem ZHd {α β:Type} (d:α) (f:α→β) (l:List α):l.map f=vx l.length fun i=>f (l.getD i d):=by
 apply List.ext_getElem?;intro i;by_cases hi:i<l.length
 ·rw [ZJd _ hi];simp [List.getD_eq_getElem?_getD,hi]
 ·rw [List.getElem?_eq_none (by simpa using hi),List.getElem?_eq_none (by rw [Zl];omega)]
theorem ZMh (l:List (Int×Int)) (hl:l.length≤1048576):ZOe l=some (l.map ZD,l.map fun r=>wq (ZD r)):=by
 unfold ZOe ZBf rofF;rw [ZHd (0,0) ZD,ZHd (0,0) fun r=>wq (ZD r)];have e:∀ {α:Type} (f:Int×Int→α) (k:Nat) (hk:k<l.length),vx k (fun i=>f (l.getD i (0,0)))++[f l[k]]=vx (k+1) fun i=>f (l.getD i (0,0)):=fun f k hk=>by
  rw [← ZUc];simp [List.getD_eq_getElem?_getD,hk]
 refine Zu (y:=(vx l.length fun i=>ZD (l.getD i (0,0)),vx l.length fun i=>wq (ZD (l.getD i (0,0))))) (Zma (fun k=>(vx k (fun i=>ZD (l.getD i (0,0))),vx k (fun i=>wq (ZD (l.getD i (0,0)))),(k:Int))) l.length rfl (by omega) (fun k hk=>?_) ?_) rfl
 ·simp only;rw [decide_eq_true (by omega),Ze,Zw hk,Za,Za,e ZD k hk,Zsa (by rw [Zl];omega),Za,Za,Zwu,Za,e (fun r=>wq (ZD r)) k hk,Zsa (by rw [Zl];omega),Za,Zm (by omega) (by omega),Za];rfl
 ·simp only;rw [decide_eq_false (by omega),Zf]
theorem ZIv (m:List (List (Int×Int))) (hm:m.length≤1000) (hr:∀ r,r ∈ m→r.length≤1048576):Z2e m=some (m.map (·.map ZD),m.map (·.map fun r=>wq (ZD r))):=by
 unfold Z2e;rw [Z8j (by omega) (by omega),Za,Za,ZHd [] (·.map ZD) m,ZHd [] (·.map fun r=>wq (ZD r)) m];refine Zu (y:=(vx m.length fun i=>(m.getD i []).map ZD,vx m.length fun i=>(m.getD i []).map fun r=>wq (ZD r))) (Zma (fun k=>((k:Int),vx m.length (fun i=>if i<k then (m.getD i []).map ZD else []),vx m.length fun i=>if i<k then (m.getD i []).map (fun r=>wq (ZD r)) else [])) m.length ?_ (by omega) (fun k hk=>?_) ?_) rfl
 ·simp only [Int.toNat_natCast,ZZi];exact Prod.ext rfl (Prod.ext (Zx fun i hi=>if_neg (by omega)) (Zx fun i hi=>if_neg (by omega)))
 ·simp only;have hk':m.getD k []=m[k]:=by simp [List.getD_eq_getElem?_getD,hk]
  rw [decide_eq_true (by omega),Ze,Zw hk,Za,ZMh _ (hr _ (List.getElem_mem hk)),Za,Zs _ hk,Za,Zs _ hk,Za,Zm (by omega) (by omega),Za];simp only [Int.toNat_natCast,Zza];refine congrArg (fun x=>some (Sum.inl x)) (Prod.ext (by simp) (Prod.ext (Zx fun i hi=>?_) (Zx fun i hi=>?_)))
  ·by_cases e:i=k
   ·rw [if_pos e,if_pos (by omega),e,hk']
   ·rw [if_neg e];by_cases e2:i<k
    ·rw [if_pos e2,if_pos (by omega)]
    ·rw [if_neg e2,if_neg (by omega)]
  ·by_cases e:i=k
   ·rw [if_pos e,if_pos (by omega),e,hk']
   ·rw [if_neg e];by_cases e2:i<k
    ·rw [if_pos e2,if_pos (by omega)]
    ·rw [if_neg e2,if_neg (by omega)]
 ·simp only;rw [decide_eq_false (by omega),Zf];exact congrArg (fun x=>some (Sum.inr x)) (Prod.ext (Zx fun i hi=>if_pos hi) (Zx fun i hi=>if_pos hi))
def rt (m:List (List (Int×Int))):Mx:=fun i j=>ZD ((m.getD i []).getD j (0,0))
def rv (l:List (Int×Int)):Nat→Rat:=fun j=>ZD (l.getD j (0,0))
theorem ZJj (l:List (Int×Int)):l.map ZD=vx l.length (rv l):=ZHd (0,0) ZD l
theorem rows_mx {m:List (List (Int×Int))} {n:Nat} (h:∀ r,r ∈ m→r.length=n):m.map (·.map ZD)=mx m.length n (rt m):=by
 rw [ZHd []];refine Zx fun i hi=>?_;rw [ZHd (0,0) ZD];have hk':m.getD i []=m[i]:=by simp [List.getD_eq_getElem?_getD,hi]
 rw [hk',h _ (List.getElem_mem hi),← hk'];rfl
set_option maxRecDepth 100000
theorem kk_num {K k B:Nat} (hK:K≤B) (hk:k≤7):kk K k≤128*(B+1):=by
 unfold kk;have h1:2^k≤2^7:=Nat.pow_le_pow_right (by decide) hk;have h2:2^k*(K+1)≤128*(B+1):=Nat.mul_le_mul (by simpa using h1) (by omega);omega
theorem rt_sz {m:List (List (Int×Int))} (hm:∀ r,r ∈ m→∀ x,x ∈ r→i64 x) (i j:Nat):sz 64 (rt m i j):=by
 unfold rt;refine Zhl ?_;rw [List.getD_eq_getElem?_getD]
 cases h:(m.getD i [])[j]? with
 | none=>exact ⟨by decide,by decide⟩
 | some x =>
  have hx:x ∈ m.getD i []:=List.mem_of_getElem? h;rw [List.getD_eq_getElem?_getD] at hx
  cases h2:m[i]? with
  | none=>rw [h2] at hx;simp at hx
  | some r=>rw [h2] at hx;exact hm r (List.mem_of_getElem? h2) x hx
theorem ZTj {l:List (Int×Int)} (hl:∀ x,x ∈ l→i64 x) (j:Nat):sz 64 (rv l j):=by
 unfold rv;refine Zhl ?_;rw [List.getD_eq_getElem?_getD]
 cases h:l[j]? with
 | none=>exact ⟨by decide,by decide⟩
 | some x=>exact hl x (List.mem_of_getElem? h)
noncomputable def ZUi (p:(List (List Rat))×(List Rat)×(List Rat)) (x:List Rat):Option (Bool×Int) :=
 bnd (α:=Bool)
 (bnd (ZUd p) fun a =>
 ifb (a != (0:Int))
 (some true)
 (some ((x.length:Int) != (p.2.2.length:Int)))) fun b =>
 ifb b
 (some (false,(4:Int)))
 (bnd (Zph p x) fun c =>
 some (c,(0:Int)))
noncomputable def ZAi (p:(List (List Rat))×(List Rat)×(List Rat)) (x:List Rat):Option (Rat×Int) :=
 bnd (α:=Bool)
 (bnd (ZUd p) fun a =>
 ifb (a != (0:Int))
 (some true)
 (some ((x.length:Int) != (p.2.2.length:Int)))) fun b =>
 ifb b
 (some ((0:Rat),(4:Int)))
 (bnd (Zpd p.2.2 x) fun c =>
 some (c,(0:Int)))
noncomputable def Zif (p:(List (List Rat))×(List Rat)×(List Rat)) (y:List Rat):Option (Rat×Bool) :=
 bnd (α:=Bool)
 (bnd (ZUd p) fun a =>
 ifb (a != (0:Int))
 (some true)
 (bnd (ZVh p y) fun b =>
 some (!b))) fun c =>
 ifb c
 (some ((0:Rat),false))
 (bnd (Zpd p.2.1 y) fun d =>
 some (d,true))
set_option maxRecDepth 100000
variable {m n:Nat} {A:Mx} {B C:Nat→Rat}
theorem neF (n:Nat):((n:Int) != (n:Int))=false:=by simp
def aw (k m n R:Nat):Nat:=kk (k*((m+1)*(n+1))+1) R
theorem lmax_sz {k R:Nat} (hr:m≤R∨n+1≤R) (hA:∀ i j,i<m→j<n→sz k (A i j)) (hB:∀ i,i<m→sz k (B i)) (hC:∀ j,j<n→sz k (C j)) (hk:1≤k) (hm:m≤100) (hn:n≤100) (hN:n+m+1≤60) (hS:(n+1)*((k*((m+1)*(n+1))+1)+aw k m n R+2)≤137438953472) :
  ∃ z,Z8h (mx m n A,vx m B,vx n C)=some z∧ZCa m n (aw k m n R) A B C z :=
 Zdv hr (st0_cd hA hB hC hk) (by omega) hm hn hN hS
theorem Max_sz {k R:Nat} (hr:m≤R∨n+1≤R) (hA:∀ i j,i<m→j<n→sz k (A i j)) (hB:∀ i,i<m→sz k (B i)) (hC:∀ j,j<n→sz k (C j)) (hk:1≤k) (hm:m≤12) (hn:n≤48) (hN:n+m+1≤60) (hS:(n+1)*((k*((m+1)*(n+1))+1)+aw k m n R+2)≤137438953472) :
  ∃ z,Zqe (mx m n A,vx m B,vx n C)=some (z,0)∧ZCa m n (aw k m n R) A B C z:=by
 obtain ⟨z,h1,h2⟩:=lmax_sz hr hA hB hC hk (by omega) (by omega) hN hS;refine ⟨z,?_,h2⟩;unfold Zqe;rw [Zvi (Zmj hm hn),Za,show ((0:Int) != (0:Int))=false from rfl,Zf,h1,Za]
theorem Z0t {K k:Nat} {x:Nat→Rat} (hA:∀ i j,i<m→j<n→sz K (A i j)) (hB:∀ i,i<m→sz K (B i)) (hx:∀ j,j<n→sz k (x j)) (hm:m≤12) (hn:n≤48) (hk:(n+1)*(K+k+1)≤1099511627776) :
  ∃ b,ZUi (mx m n A,vx m B,vx n C) (vx n x)=some (b,0)∧(b=true↔Feas m n A B x):=by
 obtain ⟨b,h1,h2⟩:=pkeepsS (C:=C) hA hB hx (by omega) (by omega) hk;refine ⟨b,?_,h2⟩;unfold ZUi;simp only;rw [Zvi (Zmj hm hn),Za,show ((0:Int) != (0:Int))=false from rfl,Zf,Za,Zl,Zl,neF,Zf,h1,Za]
theorem Zcu {K k:Nat} {x:Nat→Rat} (hC:∀ j,j<n→sz K (C j)) (hx:∀ j,j<n→sz k (x j)) (hm:m≤12) (hn:n≤48) (hk:(n+1)*(K+k+1)≤1099511627776) :
  ZAi (mx m n A,vx m B,vx n C) (vx n x)=some (sm n (fun j=>C j*x j),0):=by
 unfold ZAi;simp only;rw [Zvi (Zmj hm hn),Za,show ((0:Int) != (0:Int))=false from rfl,Zf,Za,Zl,Zl,neF,Zf,dotS hC hx (by omega) hk,Za]
theorem ZFt {K k q:Nat} {y:Nat→Rat} (hA:∀ i j,i<m→j<n→sz K (A i j)) (hB:∀ i,i<m→sz K (B i)) (hC:∀ i,i<n→sz K (C i)) (hy:∀ j,j<q→sz k (y j)) (hm:m≤12) (hn:n≤48) (hk:(m+1)*(K+k+1)≤1099511627776) :
  (Zif (mx m n A,vx m B,vx n C) (vx q y)=some (sm m (fun i=>B i*y i),true)∧q=m∧Dual m n A B C y)∨(Zif (mx m n A,vx m B,vx n C) (vx q y)=some (0,false)∧¬ (q=m∧Dual m n A B C y)):=by
 obtain ⟨b,h1,h2⟩:=pdualS (B:=B) (q:=q) hA hC hy (by omega) (by omega) hk;unfold Zif;simp only;rw [Zvi (Zmj hm hn),Za,show ((0:Int) != (0:Int))=false from rfl,Zf,h1,Za,Za]
 cases b with
 | true =>
  obtain ⟨rfl,h3⟩:=h2.1 rfl;rw [ZEs,dotS hB hy (by omega) hk,Za];exact .inl ⟨rfl,rfl,h3⟩
 | false =>
  rw [ifb_nf];refine .inr ⟨rfl,fun h=>?_⟩;have:=h2.2 h
  cases this
set_option maxRecDepth 100000
abbrev AnsT:=Int×Rat×(List Rat)×(List Rat)×(List Rat)
namespace ZCa
variable {m n W:Nat} {A:Mx} {B C:Nat→Rat} {z:AnsT}
theorem mono {W':Nat} (h:ZCa m n W A B C z) (hw:W≤W'):ZCa m n W' A B C z:=by
 rcases h with ⟨y,h1,h2,h3⟩ | ⟨x,y,v,h1,h2,h3,h4,h5,h6,h7,h8⟩ | ⟨x,d,h1,h2,h3,h4,h5⟩
 ·exact .inl ⟨y,h1,h2,fun i hi=>(h3 i hi).mono hw⟩
 ·exact .inr (.inl ⟨x,y,v,h1,h2,h3,h4,h5,fun i hi=>(h6 i hi).mono hw,fun i hi=>(h7 i hi).mono hw,h8.mono hw⟩)
 ·exact .inr (.inr ⟨x,d,h1,h2,h3,fun i hi=>(h4 i hi).mono hw,fun i hi=>(h5 i hi).mono hw⟩)
theorem kind (h:ZCa m n W A B C z):z.1=1∨z.1=2∨z.1=3:=by
 rcases h with ⟨y,rfl,_⟩ | ⟨x,y,v,rfl,_⟩ | ⟨x,d,rfl,_⟩
 ·exact .inr (.inl rfl)
 ·exact .inl rfl
 ·exact .inr (.inr rfl)
theorem k1 (h:ZCa m n W A B C z) (hk:z.1=1):∃ x y,Feas m n A B x∧z.2.1=sm n (fun k=>C k*x k)∧Dual m n A B C y∧z.2.1=sm m (fun i=>B i*y i):=by
 rcases h with ⟨y,rfl,_⟩ | ⟨x,y,v,rfl,h2,h3,h4,h5,_⟩ | ⟨x,d,rfl,_⟩
 ·cases hk
 ·exact ⟨x,y,h2,h3,h4,h5⟩
 ·cases hk
theorem k2 (h:ZCa m n W A B C z) (hk:z.1=2):z.2.1=0∧∃ y,Farkas m n A B y:=by
 rcases h with ⟨y,rfl,h2,_⟩ | ⟨x,y,v,rfl,_⟩ | ⟨x,d,rfl,_⟩
 ·exact ⟨rfl,y,h2⟩
 ·cases hk
 ·cases hk
theorem k3 (h:ZCa m n W A B C z) (hk:z.1=3):z.2.1=0∧∃ x d,Feas m n A B x∧IsRay m n A C d:=by
 rcases h with ⟨y,rfl,h2,_⟩ | ⟨x,y,v,rfl,_⟩ | ⟨x,d,rfl,h2,h3,_⟩
 ·cases hk
 ·cases hk
 ·exact ⟨rfl,x,d,h2,h3⟩
theorem szv (h:ZCa m n W A B C z) (hW:1≤W):sz W z.2.1:=by
 rcases h with ⟨y,rfl,_⟩ | ⟨x,y,v,rfl,_,_,_,_,_,_,h8⟩ | ⟨x,d,rfl,_⟩
 ·exact Z0d.mono hW
 ·exact h8
 ·exact Z0d.mono hW
theorem feas (h:ZCa m n W A B C z) (hk:z.1≠2):∃ x,Feas m n A B x:=by
 rcases h.kind with h1 | h1 | h1
 ·obtain ⟨x,_,h2,_⟩:=h.k1 h1;exact ⟨x,h2⟩
 ·exact absurd h1 hk
 ·obtain ⟨_,x,_,h2,_⟩:=h.k3 h1;exact ⟨x,h2⟩
theorem of_feas (h:ZCa m n W A B C z) {x:Nat→Rat} (hx:Feas m n A B x):z.1≠2:=fun e=>by
 obtain ⟨_,y,hy⟩:=h.k2 e
 exact Znn hy hx
theorem of_no (h:ZCa m n W A B C z) (hx:∀ x,¬ Feas m n A B x):z.1=2:=Classical.byContradiction fun e=>by
 obtain ⟨x,h⟩:=h.feas e
 exact hx x h
theorem most (h:ZCa m n W A B C z) (hk:z.1=1) {x:Nat→Rat} (hx:Feas m n A B x):sm n (fun k=>C k*x k)≤z.2.1:=by
 obtain ⟨_,y,_,_,h3,h4⟩:=h.k1 hk;rw [h4];exact weak hx h3
theorem least (h:ZCa m n W A B C z) (hk:z.1=1) {y:Nat→Rat} (hy:Dual m n A B C y):z.2.1≤sm m (fun i=>B i*y i):=by
 obtain ⟨x,_,h2,h3,_⟩:=h.k1 hk;rw [h3];exact weak h2 hy
theorem no_ray (h:ZCa m n W A B C z) (hk:z.1=1) {d:Nat→Rat} (hd:IsRay m n A C d):False:=by
 obtain ⟨_,y,_,_,h3,_⟩:=h.k1 hk;exact Zls h3 hd
theorem no_dual (h:ZCa m n W A B C z) {y:Nat→Rat} (hy:Dual m n A B C y):z.1≠3:=fun e=>by
 obtain ⟨_,_,d,_,hd⟩:=h.k3 e
 exact Zls hy hd
theorem scaled (h:ZCa m n W A B C z) {W':Nat} {s:AnsT} {k:Rat} (hk:0<k) (hs:ZCa m n W' A B (fun j=>C j*k) s):s.1=z.1∧s.2.1=z.2.1*k:=by
 have e1:∀ x:Nat→Rat,sm n (fun j=>C j*k*x j)=sm n (fun j=>C j*x j)*k:=fun x=>by
  rw [Rat.mul_comm _ k,← Zqc];exact Zaa fun j _=>by grind
 have dl:∀ y,Dual m n A B C y→Dual m n A B (fun j=>C j*k) (fun i=>k*y i):=fun y hy=>⟨fun i hi=>Rat.mul_nonneg (Rat.le_of_lt hk) (hy.nn i hi),fun j hj=>by
  have h1:=Rat.mul_le_mul_of_nonneg_left (hy.le j hj) (Rat.le_of_lt hk);rw [← Zqc] at h1;have e2:sm m (fun i=>k*y i*A i j)=sm m (fun i=>k*(y i*A i j)):=Zaa fun i _=>by grind
  rw [e2];grind⟩
 have ry:∀ d,IsRay m n A C d↔IsRay m n A (fun j=>C j*k) d:=fun d=>by
  constructor
  ·intro hd;exact ⟨hd.nn,hd.le,by rw [e1];exact Rat.mul_pos hd.pos hk⟩
  ·intro hd;refine ⟨hd.nn,hd.le,?_⟩;have:=hd.pos;rw [e1] at this;exact Classical.byContradiction fun hn=>by
    have h1:=Rat.mul_le_mul_of_nonneg_right (Rat.not_lt.1 hn) (Rat.le_of_lt hk);grind
 rcases h.kind with h1 | h1 | h1
 ·obtain ⟨x,y,h2,h3,h4,h5⟩:=h.k1 h1;have hs1:s.1=1:=by
   rcases hs.kind with g | g | g
   ·exact g
   ·exact absurd g (hs.of_feas h2)
   ·exact absurd g (hs.no_dual (dl y h4))
  refine ⟨by rw [hs1,h1],?_⟩;have u1:=hs.most hs1 h2;have u2:=hs.least hs1 (dl y h4);rw [e1,← h3] at u1;have e3:sm m (fun i=>B i*(k*y i))=sm m (fun i=>B i*y i)*k:=by
   rw [Rat.mul_comm _ k,← Zqc];exact Zaa fun j _=>by grind
  rw [e3,← h5] at u2;grind
 ·obtain ⟨h2,y,h3⟩:=h.k2 h1;have hs1:s.1=2:=hs.of_no fun x hx=>Znn h3 hx;refine ⟨by rw [hs1,h1],?_⟩;rw [(hs.k2 hs1).1,h2];grind
 ·obtain ⟨h2,x,d,h3,h4⟩:=h.k3 h1;have hs1:s.1=3:=by
   rcases hs.kind with g | g | g
   ·exact absurd ((ry d).1 h4) (hs.no_ray g)
   ·exact absurd g (hs.of_feas h3)
   ·exact g
  refine ⟨by rw [hs1,h1],?_⟩;rw [(hs.k3 hs1).1,h2];grind
end ZCa
noncomputable def ZVg (l:List (Int×Int)):Option (List (Rat×Rat×Rat×Rat)) :=
 bnd (Zg (σ:=(List (Rat×Rat×Rat×Rat))×Int) (ρ:=List (Rat×Rat×Rat×Rat)) (fun a =>
 ifb (decide (a.2<(l.length:Int)))
 (bnd (idx l a.2) fun c =>
 bnd (rofF c) fun d =>
 bnd (Z1e d) fun b =>
 bnd (ZC 224 (a.1++[b])) fun _ =>
 bnd (chk .i64 (a.2+(1:Int))) fun e =>
 some (.inl (a.1++[b],e)))
 (some (.inr a.1)))
  Zh (([]:List (Rat×Rat×Rat×Rat)),(0:Int))) fun f =>
 some f
noncomputable def Zgj (m:List (List (Int×Int))):Option (List (List (Rat×Rat×Rat×Rat))) :=
 bnd (mk 24 (m.length:Int) (m.length:Int)) fun _ =>
 bnd (Zg (σ:=Int×(List (List (Rat×Rat×Rat×Rat)))) (ρ:=List (List (Rat×Rat×Rat×Rat))) (fun a =>
 ifb (decide (a.1<(m.length:Int)))
 (bnd (idx m a.1) fun b =>
 bnd (ZVg b) fun c =>
 bnd (idx a.2 a.1) fun f =>
 bnd (chk .i64 (a.1+(1:Int))) fun d =>
 some (.inl (d,a.2.set a.1.toNat c)))
 (some (.inr a.2)))
  Zh ((0:Int),List.replicate (m.length:Int).toNat ([]:List (Rat×Rat×Rat×Rat)))) fun e =>
 some e
noncomputable def ZFh (a:List (List (Int×Int))) (b:List (Int×Int)) (c:List (Int×Int)):Option (((List (List Rat))×(List Rat)×(List Rat))×((List (List (Rat×Rat×Rat×Rat)))×(List (Rat×Rat×Rat×Rat))×(List (Rat×Rat×Rat×Rat)))) :=
 bnd (Z2e a) fun d =>
 bnd (ZOe b) fun e =>
 bnd (ZOe c) fun f =>
 bnd (Zgj a) fun g =>
 bnd (ZVg b) fun h =>
 bnd (ZVg c) fun i =>
 some ((d.1,e.1,f.1),(g,h,i))
set_option maxRecDepth 100000
def sq (q:Rat):SR:=(q,0,0,0)
theorem ZOw (q:Rat):Z1e q=some (sq q):=by
 unfold Z1e ZKb;rfl
theorem Zdm (l:List (Int×Int)) (hl:l.length≤1048576):ZVg l=some (l.map fun r=>sq (ZD r)):=by
 unfold ZVg rofF;rw [ZHd (0,0) fun r=>sq (ZD r)];have e:∀ {α:Type} (f:Int×Int→α) (k:Nat) (hk:k<l.length),vx k (fun i=>f (l.getD i (0,0)))++[f l[k]]=vx (k+1) fun i=>f (l.getD i (0,0)):=fun f k hk=>by
  rw [← ZUc];simp [List.getD_eq_getElem?_getD,hk]
 refine Zu (y:=vx l.length fun i=>sq (ZD (l.getD i (0,0)))) (Zma (fun k=>(vx k (fun i=>sq (ZD (l.getD i (0,0)))),(k:Int))) l.length rfl (by omega) (fun k hk=>?_) ?_) rfl
 ·simp only;rw [decide_eq_true (by omega),Ze,Zw hk,Za,Za,ZOw,Za,e (fun r=>sq (ZD r)) k hk,Zsa (by rw [Zl];omega),Za,Zm (by omega) (by omega),Za];rfl
 ·simp only;rw [decide_eq_false (by omega),Zf]
theorem ZNv (m:List (List (Int×Int))) (hm:m.length≤1000) (hr:∀ r,r ∈ m→r.length≤1048576):Zgj m=some (m.map (·.map fun r=>sq (ZD r))):=by
 unfold Zgj;rw [Z8j (by omega) (by omega),Za,ZHd [] (·.map fun r=>sq (ZD r)) m];refine Zu (y:=vx m.length fun i=>(m.getD i []).map fun r=>sq (ZD r)) (Zma (fun k=>((k:Int),vx m.length (fun i=>if i<k then (m.getD i []).map (fun r=>sq (ZD r)) else []))) m.length ?_ (by omega) (fun k hk=>?_) ?_) rfl
 ·simp only [Int.toNat_natCast,ZZi];exact Prod.ext rfl (Zx fun i hi=>if_neg (by omega))
 ·simp only;have hk':m.getD k []=m[k]:=by simp [List.getD_eq_getElem?_getD,hk]
  rw [decide_eq_true (by omega),Ze,Zw hk,Za,Zdm _ (hr _ (List.getElem_mem hk)),Za,Zs _ hk,Za,Zm (by omega) (by omega),Za];simp only [Int.toNat_natCast,Zza];refine congrArg (fun x=>some (Sum.inl x)) (Prod.ext (by simp) (Zx fun i hi=>?_));by_cases e:i=k
  ·rw [if_pos e,if_pos (by omega),e,hk']
  ·rw [if_neg e];by_cases e2:i<k
   ·rw [if_pos e2,if_pos (by omega)]
   ·rw [if_neg e2,if_neg (by omega)]
 ·simp only;rw [decide_eq_false (by omega),Zf];exact congrArg (fun x=>some (Sum.inr x)) (Zx fun i hi=>if_pos hi)
theorem ZFv {a:List (List (Int×Int))} {b c:List (Int×Int)} (ha:a.length≤1000) (hr:∀ r,r ∈ a→r.length≤1048576) (hb:b.length≤1048576) (hc:c.length≤1048576) :
  ZFh a b c=some ((a.map (·.map ZD),b.map ZD,c.map ZD),(a.map (·.map fun r=>sq (ZD r)),b.map (fun r=>sq (ZD r)),c.map fun r=>sq (ZD r))):=by
 unfold ZFh;rw [ZIv a ha hr,Za,ZMh b hb,Za,ZMh c hc,Za,ZNv a ha hr,Za,Zdm b hb,Za,Zdm c hc,Za]
noncomputable def Zfj (m:List (List (Int×Int))) (n:Int):Option Bool :=
 bnd (Zg (σ:=Int) (ρ:=Unit ⊕ Bool) (fun a =>
 ifb (decide (a<(m.length:Int)))
 (bnd (idx m a) fun b =>
 ifb ((b.length:Int) != n)
 (some (.inr (.inr false)))
 (bnd (chk .i64 (a+(1:Int))) fun c =>
 some (.inl c)))
 (some (.inr (.inl ()))))
  Zh (0:Int)) fun d =>
 match d with
| .inl f=>(some (decide ((0:Int)<(m.length:Int))))
| .inr e=>(some e)
set_option maxRecDepth 100000
theorem Z8v (m:List (List (Int×Int))) (n:Nat) (hm:m.length≤1000):Zfj m (n:Int)=some (decide ((∀ r,r ∈ m→r.length=n)∧0<m.length)):=by
 unfold Zfj;by_cases h:∀ r,r ∈ m→r.length=n
 ·refine Zu (y:=.inl ()) (Zma (fun k=>(k:Int)) m.length rfl (by omega) (fun k hk=>?_) ?_) ?_
  ·rw [decide_eq_true (by omega),Ze,Zw hk,Za,h _ (List.getElem_mem hk),show ((n:Int) != (n:Int))=false by simp,Zf,Zm (by omega) (by omega),Za];rfl
  ·rw [decide_eq_false (by omega),Zf]
  ·show some (decide ((0:Int)<(m.length:Int)))=_;by_cases h3:0<m.length
   ·rw [decide_eq_true (by omega),decide_eq_true ⟨h,h3⟩]
   ·rw [decide_eq_false (by omega),decide_eq_false (fun hc=>h3 hc.2)]
 ·obtain ⟨k,hk,h1,h2⟩:∃ k,∃ hk:k<m.length,m[k].length≠n∧∀ i,(hi:i<k)→(m[i]'(by omega)).length=n:=by
   have:∀ q,q≤m.length→(∀ i,(hi:i<m.length)→i<q→m[i].length=n) ∨ ∃ k,∃ hk:k<m.length,m[k].length≠n∧∀ i,(hi:i<k)→(m[i]'(by omega)).length=n:=by
    intro q
    induction q with
    | zero=>intro _;exact .inl fun i hi h=>by omega
    | succ q ih =>
     intro hq;rcases ih (by omega) with h1 | h1
     ·by_cases e:(m[q]'(by omega)).length=n
      ·exact .inl fun i hi hlt=>by
        by_cases e2:i=q
        ·subst e2;exact e
        ·exact h1 i hi (by omega)
      ·exact .inr ⟨q,by omega,e,fun i hi=>h1 i (by omega) hi⟩
     ·exact .inr h1
   rcases this m.length (Nat.le_refl _) with h1 | h1
   ·refine absurd (fun r hr=>?_) h;obtain ⟨i,hi,rfl⟩:=List.getElem_of_mem hr;exact h1 i hi hi
   ·exact h1
  refine Zu (y:=.inr false) (Zma (fun k=>(k:Int)) k rfl (by omega) (fun i hi=>?_) ?_) ?_
  ·rw [decide_eq_true (by omega),Ze,Zw (show i<m.length by omega),Za,h2 i hi,show ((n:Int) != (n:Int))=false by simp,Zf,Zm (by omega) (by omega),Za];rfl
  ·rw [decide_eq_true (by omega),Ze,Zw hk,Za,show ((m[k].length:Int) != (n:Int))=true by simp;omega,Ze]
  ·show some false=_;rw [decide_eq_false (p:=(∀ r,r ∈ m→r.length=n)∧0<m.length) (fun hc=>h hc.1)]
noncomputable def ZLp (m:List (List Rat)):Option ((List (List Rat))×(List Int)×Int) :=
 bnd (Zcn m) fun b =>
 ifb (!b)
 (some (([]:List (List Rat)),([]:List Int),(4:Int)))
 (bnd (Ztn m) fun a =>
 some (a.1,a.2.1,(0:Int)))
noncomputable def Z3o (l:(List Int)) (v:Int):Option (Int) :=
 bnd (bnd (Zg (fun s:Int=>match s with
| a =>
 (ifb (decide (a<(l.length:Int)))
 (bnd (idx l a) fun b =>
 ifb (v==b)
 (some (.inr ((.inl a))))
 (bnd (chk .i64 (a+(1:Int))) fun c =>
 some (.inl c)))
 (some (.inr ((.inr (()))))))) Zh (0:Int))
 (fun (p:(Int) ⊕ (Unit))=>match p with
| .inl d =>
 (some ((.inr d)))
| .inr (()) =>
 (some ((.inl (()))))))
 (fun (p:(Unit) ⊕ (Int))=>match p with
| .inl (()) =>
 (some (-1:Int))
| .inr e =>
 (some e))
noncomputable def ZPp (l:(List Int)) (v:Int):Option (Bool) :=
 bnd (Z3o l v) fun a =>
 some (decide ((0:Int)≤a))
noncomputable def ZZn (m:List (List Rat)):Option ((List (List Rat))×Int) :=
 bnd (Zcn m) fun g =>
 ifb (!g)
 (some (([]:List (List Rat)),(4:Int)))
 (bnd (Ztn m) fun c =>
 bnd (Zzi m) fun h =>
 bnd (Zg (σ:=(List (List Rat))×Int) (ρ:=List (List Rat)) (fun a =>
 ifb (decide (a.2<h))
 (bnd (α:=List (List Rat))
 (bnd (ZPp c.2.1 a.2) fun i =>
 ifb i
 (some a.1)
 (bnd (Zzi m) fun j =>
 bnd (ZOa (0:Int)) fun k =>
 bnd (Zpc 56 [k] j) fun d =>
 bnd (ZOa (1:Int)) fun l =>
 bnd (idx d a.2) fun u =>
 bnd (Zg (σ:=Int×(List Rat)) (ρ:=List Rat) (fun b =>
 ifb (decide (b.1<(c.2.1.length:Int)))
 (bnd (idx c.2.1 b.1) fun e =>
 bnd (idx c.1 b.1) fun n =>
 bnd (idx n a.2) fun o =>
 bnd (ZAb o) fun p =>
 bnd (idx b.2 e) fun v =>
 bnd (chk .i64 (b.1+(1:Int))) fun q =>
 some (.inl (q,b.2.set e.toNat p)))
 (some (.inr b.2)))
        Zh ((0:Int),d.set a.2.toNat l)) fun f =>
 bnd (ZC 24 (a.1++[f])) fun _ =>
 some (a.1++[f]))) fun r =>
 bnd (chk .i64 (a.2+(1:Int))) fun s =>
 some (.inl (r,s)))
 (some (.inr a.1)))
   Zh (([]:List (List Rat)),(0:Int))) fun t =>
 some (t,(0:Int)))
noncomputable def ZRs (p:(List (List Rat))×(List Rat)×(List Rat)) (a:Int×Rat×(List Rat)×(List Rat)×(List Rat)):Option Bool :=
 bnd (ZUd p) fun c =>
 ifb (c != (0:Int))
 (some false)
 (bnd (α:=Bool)
 (ifb ((a.2.2.1.length:Int)==(p.2.2.length:Int))
 (bnd (Zph p a.2.2.1) fun d =>
 some d)
 (some false)) fun b =>
 ifb (a.1==(1:Int))
 (bnd (α:=Bool)
 (ifb b
 (bnd (ZVh p a.2.2.2.1) fun e =>
 ifb e
 (ifb ((a.2.2.2.2.length:Int)==(0:Int))
 (bnd (Zpd p.2.2 a.2.2.1) fun f =>
 bnd (ZMd a.2.1 f) fun g =>
 ifb g
 (bnd (Zpd p.2.1 a.2.2.2.1) fun h =>
 bnd (ZMd a.2.1 h) fun i =>
 some i)
 (some false))
 (some false))
 (some false))
 (some false)) fun j =>
 some j)
 (ifb (a.1==(2:Int))
 (bnd (α:=Bool)
 (ifb ((a.2.2.1.length:Int)==(0:Int))
 (ifb ((a.2.2.2.2.length:Int)==(0:Int))
 (bnd (ZTb a.2.1) fun k =>
 ifb k
 (ifb ((a.2.2.2.1.length:Int)==(p.2.1.length:Int))
 (bnd (ZQe a.2.2.2.1) fun l =>
 ifb l
 (bnd (Zoi p a.2.2.2.1) fun m =>
 bnd (ZQe m) fun n =>
 ifb n
 (bnd (Zpd p.2.1 a.2.2.2.1) fun o =>
 bnd (Zbb o) fun q =>
 some (decide (q<(0:Int))))
 (some false))
 (some false))
 (some false))
 (some false))
 (some false))
 (some false)) fun r =>
 some r)
 (ifb (a.1==(3:Int))
 (bnd (α:=Bool)
 (ifb (!b)
 (some true)
 (ifb (decide ((0:Int)<(a.2.2.2.1.length:Int)))
 (some true)
 (bnd (ZTb a.2.1) fun s =>
 ifb (!s)
 (some true)
 (some ((a.2.2.2.2.length:Int) != (p.2.2.length:Int)))))) fun t =>
 ifb t
 (some false)
 (bnd (α:=Bool)
 (bnd (ZQe a.2.2.2.2) fun u =>
 ifb u
 (bnd (ZTh p.1 a.2.2.2.2) fun v =>
 bnd (ZRf (p.2.1.length:Int)) fun w =>
 bnd (Zlg v w) fun x =>
 ifb x
 (bnd (Zpd p.2.2 a.2.2.2.2) fun y =>
 bnd (Zbb y) fun z =>
 some (decide ((0:Int)<z)))
 (some false))
 (some false)) fun A =>
 some A))
 (some false))))
noncomputable def ZRl (x:Rat) (y:Rat):Option (Rat) :=
 bnd (Zdd x) fun a =>
 bnd (Zdd y) fun b =>
 bnd (Zmb x.num.natAbs b) fun c =>
 bnd (Zmb y.num.natAbs a) fun d =>
 ifb ((decide (x.num<0))==(decide (y.num<0)))
 (bnd (Zrg c d) fun e =>
 bnd (Zmb a b) fun f =>
 bnd (ZMb (decide (x.num<0)) e f) fun g =>
 some g)
 (bnd (ZQc c d) fun h =>
 ifb (decide ((0:Int)≤h))
 (bnd (ZFb c d) fun i =>
 bnd (Zmb a b) fun j =>
 bnd (ZMb (decide (x.num<0)) i j) fun k =>
 some k)
 (bnd (ZFb d c) fun l =>
 bnd (Zmb a b) fun m =>
 bnd (ZMb (decide (y.num<0)) l m) fun n =>
 some n))
noncomputable def ZYq (x:Rat×Rat×Rat×Rat) (y:Rat×Rat×Rat×Rat):Option (Rat×Rat×Rat×Rat) :=
 bnd (Zjf x.1 y.1) fun a =>
 bnd (Zjf x.2.1 y.2.1) fun b =>
 bnd (Zjf x.2.2.1 y.2.2.1) fun c =>
 bnd (Zjf x.2.2.2 y.2.2.2) fun d =>
 some (a,b,c,d)
noncomputable def ZDl (x:Rat):Option (Rat) :=
 bnd (Zdd x) fun a =>
 bnd (ZMb (!(decide (x.num<0))) x.num.natAbs a) fun b =>
 some b
noncomputable def Z0o (x:Rat×Rat×Rat×Rat):Option (Rat×Rat×Rat×Rat) :=
 bnd (Zyf x.1) fun a =>
 bnd (Zyf x.2.1) fun b =>
 bnd (Zyf x.2.2.1) fun c =>
 bnd (Zyf x.2.2.2) fun d =>
 some (a,b,c,d)
noncomputable def Zvl (x:Rat×Rat×Rat×Rat) (y:Rat×Rat×Rat×Rat):Option (Rat×Rat×Rat×Rat) :=
 bnd (Z0o y) fun a =>
 bnd (ZYq x a) fun b =>
 some b
noncomputable def ZCs (x:(Rat×Rat×Rat×Rat)×Rat×Rat×Rat×Rat) (y:(Rat×Rat×Rat×Rat)×Rat×Rat×Rat×Rat):Option ((Rat×Rat×Rat×Rat)×Rat×Rat×Rat×Rat) :=
 bnd (Zvl x.1 y.1) fun a =>
 bnd (Zvl x.2 y.2) fun b =>
 some (a,b)
noncomputable def Zzl (x:Rat×Rat×Rat×Rat):Option Bool :=
 bnd (α:=Bool)
 (bnd (Zvd x.1) fun a =>
 ifb a
 (bnd (Zvd x.2.1) fun b =>
 ifb b
 (bnd (Zvd x.2.2.1) fun c =>
 ifb c
 (bnd (Zvd x.2.2.2) fun d =>
 some d)
 (some false))
 (some false))
 (some false)) fun e =>
 some e
noncomputable def Z0s (x:(Rat×Rat×Rat×Rat)×Rat×Rat×Rat×Rat):Option Bool :=
 bnd (α:=Bool)
 (bnd (Zzl x.1) fun a =>
 ifb a
 (bnd (Zzl x.2) fun b =>
 some b)
 (some false)) fun c =>
 some c
noncomputable def ZNs (x:(Rat×Rat×Rat×Rat)×Rat×Rat×Rat×Rat) (y:(Rat×Rat×Rat×Rat)×Rat×Rat×Rat×Rat):Option Bool :=
 bnd (ZCs x y) fun a =>
 bnd (Z0s a) fun b =>
 some b
noncomputable def is2_m (x:List Rat) (y:List ((Rat×Rat×Rat×Rat)×Rat×Rat×Rat×Rat)):Option Bool :=
 ifb ((x.length:Int) != (y.length:Int))
 (some false)
 (bnd (Zg (σ:=Int) (ρ:=Unit ⊕ Bool) (fun a =>
 ifb (decide (a<(x.length:Int)))
 (bnd (α:=Bool)
 (bnd (idx x a) fun b =>
 bnd (idx y a) fun c =>
 bnd (is1_m b c.1.1) fun d =>
 ifb (!d)
 (some true)
 (bnd (idx y a) fun e =>
 bnd (idx y a) fun f =>
 bnd (Zni f.1.1) fun g =>
 bnd (ZNs e g) fun h =>
 some (!h))) fun i =>
 ifb i
 (some (.inr (.inr false)))
 (bnd (chk .i64 (a+(1:Int))) fun j =>
 some (.inl j)))
 (some (.inr (.inl ()))))
   Zh (0:Int)) fun k =>
  match k with
| .inl m=>(some true)
| .inr l=>(some l))
noncomputable def ZGm (x:List (List Rat)) (y:List (List ((Rat×Rat×Rat×Rat)×Rat×Rat×Rat×Rat))):Option Bool :=
 ifb ((x.length:Int) != (y.length:Int))
 (some false)
 (bnd (Zg (σ:=Int) (ρ:=Unit ⊕ Bool) (fun a =>
 ifb (decide (a<(x.length:Int)))
 (bnd (idx x a) fun b =>
 bnd (idx y a) fun c =>
 bnd (is2_m b c) fun d =>
 ifb (!d)
 (some (.inr (.inr false)))
 (bnd (chk .i64 (a+(1:Int))) fun e =>
 some (.inl e)))
 (some (.inr (.inl ()))))
   Zh (0:Int)) fun f =>
  match f with
| .inl h=>(some true)
| .inr g=>(some g))
noncomputable def ZBe  : Option Bool :=
 bnd (Z2e [[((2:Int),(0:Int)),((4:Int),(0:Int)),((2:Int),(0:Int))],[((1:Int),(0:Int)),((2:Int),(0:Int)),((3:Int),(0:Int))]]) fun c =>
 bnd (ZLp c.1) fun a =>
 bnd (ZZn c.1) fun d =>
 bnd (Z2e [[((1:Int),(0:Int)),((2:Int),(0:Int)),((0:Int),(0:Int))],[((0:Int),(0:Int)),((0:Int),(0:Int)),((1:Int),(0:Int))]]) fun f =>
 bnd (Z2e [[((-2:Int),(0:Int)),((1:Int),(0:Int)),((0:Int),(0:Int))]]) fun g =>
 bnd (ZFh [[((1:Int),(0:Int)),((1:Int),(0:Int))],[((1:Int),(0:Int)),((0:Int),(0:Int))]] [((4:Int),(0:Int)),((2:Int),(0:Int))] [((3:Int),(0:Int)),((2:Int),(0:Int))]) fun e =>
 bnd (Zqe e.1) fun b =>
 bnd (α:=Bool)
 (ifb (a.2.2==(0:Int))
 (ifb (d.2==(0:Int))
 (ifb (b.2==(0:Int))
 (bnd (ZGm a.1 f.2) fun h =>
 ifb h
 (bnd (ZGm d.1 g.2) fun i =>
 ifb i
 (ifb ((a.2.1.length:Int)==(2:Int))
 (bnd (idx a.2.1 (1:Int)) fun j =>
 ifb (j==(2:Int))
 (ifb (b.1.1==(1:Int))
 (bnd (ZQh b.1.2.1) fun k =>
 ifb (k==([49,48]:List UInt8))
 (bnd (ZRs e.1 b.1) fun l =>
 some l)
 (some false))
 (some false))
 (some false))
 (some false))
 (some false))
 (some false))
 (some false))
 (some false))
 (some false)) fun m =>
 some m
theorem Zkx:ZBe=some true:=by decide +kernel
noncomputable def Z2j (a:List (List (Int×Int))) (b:List (Int×Int)) (c:List (Int×Int)) (l:(List (Int×Int))×(List (Int×Int))) (more:Int×Int):Option Bool :=
 bnd (α:=Bool)
 (ifb (decide ((5:Int)<(a.length:Int)))
 (some true)
 (ifb ((b.length:Int) != (a.length:Int))
 (some true)
 (ifb (decide ((5:Int)<(c.length:Int)))
 (some true)
 (ifb ((l.1.length:Int) != (c.length:Int))
 (some true)
 (ifb ((l.2.length:Int) != (c.length:Int))
 (some true)
 (ifb (decide ((0:Int)<(a.length:Int)))
 (bnd (Zfj a (c.length:Int)) fun s =>
 some (!s))
 (some false))))))) fun t =>
 ifb t
 (bnd ZBe fun u =>
 some u)
 (bnd (ZFh a b c) fun d =>
 bnd (ZOe l.1) fun j =>
 bnd (Zqe d.1) fun e =>
 bnd (ZUi d.1 j.1) fun k =>
 bnd (ZAi d.1 j.1) fun m =>
 ifb ((max (max e.2 k.2) m.2) != (0:Int))
 (some false)
 (bnd (α:=Bool)
 (ifb k.1
 (ifb (e.1.1==(2:Int))
 (some true)
 (ifb (e.1.1==(1:Int))
 (bnd (ZRc m.1 e.1.2.1) fun v =>
 some (decide ((0:Int)<v)))
 (some false)))
 (some false)) fun w =>
 ifb w
 (some false)
 (bnd (Zif d.1 e.1.2.2.2.1) fun n =>
 bnd (α:=Bool)
 (ifb (e.1.1==(1:Int))
 (ifb (!n.2)
 (some true)
 (bnd (ZMd n.1 e.1.2.1) fun x =>
 some (!x)))
 (some false)) fun y =>
 ifb y
 (some false)
 (bnd (rem .i64 more.1 (20:Int)) fun z =>
 bnd (chk .i64 (z+(20:Int))) fun A =>
 bnd (rem .i64 A (20:Int)) fun B =>
 bnd (chk .i64 ((1:Int)+B)) fun C =>
 bnd (Z4d C) fun o =>
 bnd (Zg (σ:=Int×((List (List Rat))×(List Rat)×(List Rat))) (ρ:=(List (List Rat))×(List Rat)×(List Rat)) (fun f =>
 ifb (decide (f.1<(d.1.2.2.length:Int)))
 (bnd (idx d.1.2.2 f.1) fun D =>
 bnd (Zra D o) fun p =>
 bnd (ZC 56 (f.2.2.2++[p])) fun _ =>
 bnd (chk .i64 (f.1+(1:Int))) fun E =>
 some (.inl (E,f.2.1,f.2.2.1,f.2.2.2++[p])))
 (some (.inr (f.2.1,f.2.2.1,f.2.2.2))))
      Zh ((0:Int),d.1.1,d.1.2.1,([]:List Rat))) fun h =>
 bnd (ZC 24 (([]:List (List Rat))++d.1.1)) fun _ =>
 bnd (ZC 56 (([]:List Rat)++d.1.2.1)) fun _ =>
 bnd (ZOe l.2) fun q =>
 bnd (ZC 24 ((([]:List (List Rat))++d.1.1)++[q.1])) fun _ =>
 bnd (ZBf more) fun r =>
 bnd (ZC 56 ((([]:List Rat)++d.1.2.1)++[r])) fun _ =>
 bnd (Zqe (h.1,h.2.1,h.2.2)) fun i =>
 bnd (Zqe ((([]:List (List Rat))++d.1.1)++[q.1],(([]:List Rat)++d.1.2.1)++[r],d.1.2.2)) fun g =>
 bnd (α:=Bool)
 (ifb (i.2 != (0:Int))
 (some true)
 (ifb (g.2 != (0:Int))
 (some true)
 (ifb (i.1.1 != e.1.1)
 (some true)
 (bnd (Zra e.1.2.1 o) fun F =>
 bnd (ZMd i.1.2.1 F) fun G =>
 some (!G))))) fun H =>
 ifb H
 (some false)
 (ifb (e.1.1==(2:Int))
 (bnd (α:=Bool)
 (ifb (g.1.1==(2:Int))
 (bnd ZBe fun I =>
 some I)
 (some false)) fun J =>
 some J)
 (ifb (e.1.1==(1:Int))
 (bnd (α:=Bool)
 (ifb (g.1.1 != (3:Int))
 (ifb (g.1.1==(2:Int))
 (bnd ZBe fun K =>
 some K)
 (bnd (ZRc g.1.2.1 e.1.2.1) fun L =>
 ifb (decide (L≤(0:Int)))
 (bnd ZBe fun M =>
 some M)
 (some false)))
 (some false)) fun N =>
 some N)
 (bnd ZBe fun O =>
 some O)))))))
set_option maxRecDepth 100000
variable {m n:Nat} {A:Mx} {B C:Nat→Rat}
theorem aw_le {k m n R:Nat} {b:Nat} (hR:R≤7) (h:k*((m+1)*(n+1))+1≤b):aw k m n R≤128*(b+1):=kk_num h hR
theorem bmax (hA:∀ i j,i<m→j<n→sz 128 (A i j)) (hB:∀ i,i<m→sz 128 (B i)) (hC:∀ j,j<n→sz 128 (C j)) (hm:m≤6) (hn:n≤5):∃ z,Zqe (mx m n A,vx m B,vx n C)=some (z,0)∧ZCa m n 700000 A B C z:=by
 have h1:(m+1)*(n+1)≤42:=Nat.mul_le_mul (show m+1≤7 by omega) (show n+1≤6 by omega);have h2:aw 128 m n 6≤128*(5377+1):=aw_le (by omega) (by omega);obtain ⟨z,g1,g2⟩:=Max_sz (R:=6) (k:=128) (.inl hm) hA hB hC (by omega) (by omega) (by omega) (by omega) (by
  have:(n+1)*(128*((m+1)*(n+1))+1+aw 128 m n 6+2)≤6*(128*42+1+128*(5377+1)+2):=Nat.mul_le_mul (by omega) (by omega);omega)
 exact ⟨z,g1,g2.mono (by omega)⟩
theorem wrapk {f:Rat→Option Bool} (a:Int):∃ k:Int,1≤k∧k≤20∧(bnd (rem .i64 a (20:Int)) fun y14 =>
     bnd (chk .i64 (y14+(20:Int))) fun y15 =>
     bnd (rem .i64 y15 (20:Int)) fun y16 =>
     bnd (chk .i64 ((1:Int)+y16)) fun y17 =>
     bnd (Z4d y17) f)=f (k:Rat):=by
  have t1:-(20:Int)<a.tmod 20∧a.tmod 20<20:=by
    have:=Int.tmod_lt_of_pos a (show (0:Int)<20 by omega);have h3:=Int.lt_tmod_of_pos a (show (0:Int)<20 by omega);omega
  have t2:=Int.tmod_nonneg (20:Int) (show 0≤a.tmod 20+20 by omega);have t3:=Int.tmod_lt_of_pos (a.tmod 20+20) (show (0:Int)<20 by omega);refine ⟨1+(a.tmod 20+20).tmod 20,by omega,by omega,?_⟩;unfold rem;rw [if_neg (by omega),Za,Zm (by omega) (by omega),Za,if_neg (by omega),Za,Zm (by omega) (by omega),Za];unfold Z4d;rw [Za]
theorem scl_ok {k:Rat} (hC:∀ j,j<n→sz 64 (C j)) (hk:sz 64 k) (hn:n≤5) {f:((List (List Rat))×(List Rat)×(List Rat))→Option Bool} (X:List (List Rat)) (Y:List Rat):(bnd (Zg (σ:=Int×((List (List Rat))×(List Rat)×(List Rat))) (ρ:=(List (List Rat))×(List Rat)×(List Rat)) (fun s19 =>
       ifb (decide (s19.1<((vx n C).length:Int)))
       (bnd (idx (vx n C) s19.1) fun y20 =>
        bnd (Zra y20 k) fun y21 =>
        bnd (ZC 56 (s19.2.2.2++[y21])) fun _ =>
        bnd (chk .i64 (s19.1+(1:Int))) fun y22 =>
        some (.inl (y22,s19.2.1,s19.2.2.1,s19.2.2.2++[y21])))
       (some (.inr (s19.2.1,s19.2.2.1,s19.2.2.2))))
      Zh ((0:Int),X,Y,([]:List Rat))) f)=f (X,Y,vx n fun j=>C j*k):=by
  refine Zu (Zma (fun q=>((q:Int),X,Y,vx q fun j=>C j*k)) n rfl (by omega) (fun q hq=>?_) ?_) rfl
  · simp only [Zl];rw [decide_eq_true (by omega),Ze,Zs _ hq,Za,Z3b (hC q hq) hk (by omega) (by omega),Za,ZUc q fun j=>C j*k,Zsa (by rw [Zl];omega),Za,Zm (by omega) (by omega),Za];rfl
  · simp only [Zl];rw [decide_eq_false (by omega),Zf]
def ZNd (m:Nat) (A:Mx) (r:Nat→Rat):Mx:=fun i j=>if i<m then A i j else r j
def Z6d (m:Nat) (B:Nat→Rat) (x:Rat):Nat→Rat:=fun i=>if i<m then B i else x
theorem rowA_mx (r:Nat→Rat):mx m n A++[vx n r]=mx (m+1) n (ZNd m A r):=by
 have e:vx n r=vx n (ZNd m A r m):=Zx fun j _=>(if_neg (Nat.lt_irrefl m)).symm;have e2:mx m n A=vx m fun i=>vx n (ZNd m A r i):=Zx fun i hi=>Zx fun j _=>(if_pos hi).symm;rw [e2,e];exact ZUc m _
theorem rowB_vx (x:Rat):vx m B++[x]=vx (m+1) (Z6d m B x):=by
 have e:x=Z6d m B x m:=(if_neg (Nat.lt_irrefl m)).symm;have e2:vx m B=vx m (Z6d m B x):=Zx fun i hi=>(if_pos hi).symm;rw [e2]
 conv=>lhs;rw [e]
 have:=ZUc m (Z6d m B x);simp only [Z6d,Nat.lt_irrefl,if_false] at this ⊢;exact this
theorem Z8s {r:Nat→Rat} {x0:Rat} {x:Nat→Rat} (h:Feas (m+1) n (ZNd m A r) (Z6d m B x0) x):Feas m n A B x:=⟨h.nn,fun i hi=>by
 have:=h.le i (by omega)
 simp only [ZNd,Z6d,if_pos hi] at this
 exact this⟩
theorem row_ray {r:Nat→Rat} {x:Nat→Rat} (h:IsRay (m+1) n (ZNd m A r) C x):IsRay m n A C x:=⟨h.nn,fun i hi=>by
 have:=h.le i (by omega)
 simp only [ZNd,if_pos hi] at this
 exact this,h.pos⟩
theorem le_sg {x y:Rat}:x≤y ↔ ¬ 0<(x-y).num.sign:=by
 rw [Zkf];grind
theorem ZJu {a:List (List (Int×Int))} {b c:List (Int×Int)} {l:List (Int×Int)×List (Int×Int)} {more:Int×Int} (ha:∀ r,r ∈ a→∀ x,x ∈ r→i64 x) (hb:∀ x,x ∈ b→i64 x) (hc:∀ x,x ∈ c→i64 x) (hl1:∀ x,x ∈ l.1→i64 x) (hl2:∀ x,x ∈ l.2→i64 x) (hmore:i64 more):Z2j a b c l more=some true:=by
  unfold Z2j;have aw:bnd ZBe (fun y=>some y)=some true:=by rw [Zkx,Za]
  by_cases h1:5<a.length
  · rw [decide_eq_true (show (5:Int)<(a.length:Int) by omega),Ze,Za,Ze,aw]
  rw [decide_eq_false (show ¬ (5:Int)<(a.length:Int) by omega),Zf];by_cases h2:b.length=a.length
  rotate_left
  · rw [show ((b.length:Int) != (a.length:Int))=true by simp;omega,Ze,Za,Ze,aw]
  rw [h2,neF,Zf];by_cases h3:5<c.length
  · rw [decide_eq_true (show (5:Int)<(c.length:Int) by omega),Ze,Za,Ze,aw]
  rw [decide_eq_false (show ¬ (5:Int)<(c.length:Int) by omega),Zf];by_cases h4:l.1.length=c.length
  rotate_left
  · rw [show ((l.1.length:Int) != (c.length:Int))=true by simp;omega,Ze,Za,Ze,aw]
  rw [h4,neF,Zf];by_cases h5:l.2.length=c.length
  rotate_left
  · rw [show ((l.2.length:Int) != (c.length:Int))=true by simp;omega,Ze,Za,Ze,aw]
  rw [h5,neF,Zf];refine Zu (y:=decide (¬ ∀ r,r ∈ a→r.length=c.length)) ?_ ?_
  · by_cases h6:0<a.length
    · rw [decide_eq_true (show (0:Int)<(a.length:Int) by omega),Ze,Z8v a _ (by omega),Za];by_cases h7:∀ r,r ∈ a→r.length=c.length
      · rw [decide_eq_true ⟨h7,h6⟩,decide_eq_false (fun h=>h h7)];rfl
      · rw [decide_eq_false (fun h=>h7 h.1),decide_eq_true h7];rfl
    · rw [decide_eq_false (show ¬ (0:Int)<(a.length:Int) by omega),Zf];have:a=[]:=List.length_eq_zero_iff.1 (by omega);subst this;rw [decide_eq_false (fun h=>h fun r hr=>by cases hr)]
  by_cases h7:∀ r,r ∈ a→r.length=c.length
  rotate_left
  · rw [decide_eq_true h7,Ze,aw]
  rw [decide_eq_false (fun h=>h h7),Zf];rw [ZFv (by omega) (fun r hr=>by rw [h7 r hr];omega) (by omega) (by omega),Za,ZMh _ (by omega),Za];simp only;rw [rows_mx h7,ZJj b,ZJj c,ZJj l.1,h2,h4];have zA:∀ i j,sz 64 (rt a i j):=rt_sz ha;have zB:∀ i,sz 64 (rv b i):=ZTj hb;have zC:∀ i,sz 64 (rv c i):=ZTj hc;have zX:∀ i,sz 64 (rv l.1 i):=ZTj hl1;have zR:∀ i,sz 64 (rv l.2 i):=ZTj hl2;have zM:sz 64 (ZD more):=Zhl hmore;rw [ZMh l.2 (by omega),ZJj l.2,h5];generalize rt a=A at *;generalize rv b=B at *;generalize rv c=C at *;generalize rv l.1=X at *;generalize rv l.2=R at *;generalize hm:a.length=m at *;generalize hn:c.length=n at *;obtain ⟨z,g1,hz⟩:=bmax (m:=m) (n:=n) (A:=A) (B:=B) (C:=C) (fun i j _ _=>(zA i j).mono (by omega)) (fun i _=>(zB i).mono (by omega)) (fun i _=>(zC i).mono (by omega)) (by omega) (by omega);rw [g1,Za];have hb5:(n+1)*(64+64+1)≤6*(64+64+1):=Nat.mul_le_mul_right _ (by omega);obtain ⟨ok,g2,hok⟩:=Z0t (m:=m) (n:=n) (A:=A) (B:=B) (C:=C) (x:=X) (K:=64) (k:=64) (fun i j _ _=>zA i j) (fun i _=>zB i) (fun i _=>zX i) (by omega) (by omega) (by omega);rw [g2,Za,Zcu (m:=m) (n:=n) (A:=A) (B:=B) (C:=C) (x:=X) (K:=64) (k:=64) (fun i _=>zC i) (fun i _=>zX i) (by omega) (by omega) (by omega),Za];simp only;rw [show ((max (max (0:Int) 0) 0) != (0:Int))=false by decide,Zf]
  have zv:=hz.szv (by omega);have zXv:sz 2000 (sm n fun j=>C j*X j):=(Znl (n:=n) (fun i _=>zC i) fun i _=>zX i).mono (by omega);refine Zu (y:=false) ?_ ?_
  · cases ok with
    | false=>rw [Zf]
    | true =>
      have hX:=hok.1 rfl;have hne:=hz.of_feas hX;rw [Ze,show (z.1==(2:Int))=false by simpa using hne,Zf];by_cases e:z.1=1
      · rw [show (z.1==(1:Int))=true by simpa using e,Ze,Z9h zXv zv (by omega) (by omega),Za];rw [decide_eq_false (le_sg.1 (hz.most e hX))]
      · rw [show (z.1==(1:Int))=false by simpa using e,Zf]
  rw [Zf];have hbd:∃ w,Zif (mx m n A,vx m B,vx n C) z.2.2.2.1=some w∧(z.1=1→w=(z.2.1,true)):=by
    have hbb:(m+1)*(64+700000+1)≤1099511627776:=by
      have:(m+1)*(64+700000+1)≤6*(64+700000+1):=Nat.mul_le_mul_right _ (by omega);omega
    have key:∀ (q:Nat) (y:Nat→Rat),(∀ i,i<q→sz 700000 (y i))→(z.1=1→q=m∧Dual m n A B C y∧z.2.1=sm m fun i=>B i*y i)→∃ w,Zif (mx m n A,vx m B,vx n C) (vx q y)=some w∧(z.1=1→w=(z.2.1,true)):=fun q y hy hd=>by
      rcases ZFt (m:=m) (n:=n) (A:=A) (B:=B) (C:=C) (K:=64) (k:=700000) (q:=q) (y:=y) (fun i j _ _=>zA i j) (fun i _=>zB i) (fun i _=>zC i) hy (by omega) (by omega) hbb with ⟨e,_,_⟩ | ⟨e,he⟩
      · exact ⟨_,e,fun h=>by rw [(hd h).2.2]⟩
      · exact ⟨_,e,fun h=>absurd ⟨(hd h).1,(hd h).2.1⟩ he⟩
    rcases hz with ⟨y,rfl,_,hy⟩ | ⟨x,y,v,rfl,_,_,hd,hv,_,hy,_⟩ | ⟨x,d,rfl,_⟩
    · exact key m y hy fun e=>by cases e
    · exact key m y hy fun _=>⟨rfl,hd,hv⟩
    · exact key 0 (fun _=>0) (fun i hi=>by omega) fun e=>by cases e
  obtain ⟨w,g3,hw⟩:=hbd;rw [g3,Za];refine Zu (y:=false) ?_ ?_
  · by_cases e:z.1=1
    · rw [show (z.1==(1:Int))=true by simpa using e,Ze,hw e];simp only;rw [ZEs];unfold ZMd;rw [decide_eq_true rfl,Za];rfl
    · rw [show (z.1==(1:Int))=false by simpa using e,Zf]
  rw [Zf];obtain ⟨k,k1,k2,ek⟩:=wrapk (f:=fun y18 =>
     bnd (Zg (σ:=Int×((List (List Rat))×(List Rat)×(List Rat))) (ρ:=(List (List Rat))×(List Rat)×(List Rat)) (fun s19 =>
       ifb (decide (s19.1<((vx n C).length:Int)))
       (bnd (idx (vx n C) s19.1) fun y20 =>
        bnd (Zra y20 y18) fun y21 =>
        bnd (ZC 56 (s19.2.2.2++[y21])) fun _ =>
        bnd (chk .i64 (s19.1+(1:Int))) fun y22 =>
        some (.inl (y22,s19.2.1,s19.2.2.1,s19.2.2.2++[y21])))
       (some (.inr (s19.2.1,s19.2.2.1,s19.2.2.2))))
      Zh ((0:Int),mx m n A,vx m B,([]:List Rat))) fun x23=>_) more.1
  refine Eq.trans ek ?_;have zk:sz 64 (k:Rat):=Zhp ⟨by omega,by omega⟩;have kp:0<(k:Rat):=Rat.intCast_pos.2 (by omega);rw [scl_ok (fun j _=>zC j) zk (by omega)];simp only [List.nil_append];rw [Zsa (by rw [Z6a];omega),Za,Zsa (by rw [Zl];omega),Za,Za];simp only;rw [rowA_mx,Zsa (by rw [Z6a];omega),Za];unfold ZBf;rw [Za];rw [rowB_vx,Zsa (by rw [Zl];omega),Za];obtain ⟨s,g4,hs⟩:=bmax (m:=m) (n:=n) (A:=A) (B:=B) (C:=fun j=>C j*(k:Rat)) (fun i j _ _=>(zA i j).mono (by omega)) (fun i _=>(zB i).mono (by omega)) (fun i _=>Zzb (zC i) zk) (by omega) (by omega);obtain ⟨w2,g5,hw2⟩:=bmax (m:=m+1) (n:=n) (A:=ZNd m A R) (B:=Z6d m B (ZD more)) (C:=C) (fun i j _ _=>by
    unfold ZNd;split
    · exact (zA i j).mono (by omega)
    · exact (zR j).mono (by omega)) (fun i _=>by
    unfold Z6d;split
    · exact (zB i).mono (by omega)
    · exact zM.mono (by omega)) (fun i _=>(zC i).mono (by omega)) (by omega) (by omega)
  rw [g4,Za,g5,Za];obtain ⟨s1,s2⟩:=hz.scaled kp hs;refine Zu (y:=false) ?_ ?_
  · simp only;rw [show ((0:Int) != (0:Int))=false from rfl,Zf,Zf,s1,show (z.1 != z.1)=false by simp,Zf,Z3b zv zk (by omega) (by omega),Za,s2];unfold ZMd;rw [decide_eq_true rfl,Za];rfl
  rw [Zf];by_cases e2:z.1=2
  · rw [show (z.1==(2:Int))=true by simpa using e2,Ze];have:w2.1=2:=hw2.of_no fun x hx=>by
      obtain ⟨_,y,hy⟩:=hz.k2 e2;exact Znn hy (Z8s hx)
    simp only [this];rw [show ((2:Int)==(2:Int))=true from rfl,Ze,aw,Za]
  rw [show (z.1==(2:Int))=false by simpa using e2,Zf];by_cases e1:z.1=1
  · rw [show (z.1==(1:Int))=true by simpa using e1,Ze];refine Zu (y:=true) ?_ rfl;rcases hw2.kind with w3 | w3 | w3
    · simp only [w3];rw [show ((1:Int) != (3:Int))=true from rfl,Ze,show ((1:Int)==(2:Int))=false from rfl,Zf,Z9h (hw2.szv (by omega)) zv (by omega) (by omega),Za];obtain ⟨x,y,q1,q2,_⟩:=hw2.k1 w3;have:=hz.most e1 (Z8s q1);rw [← q2] at this;rw [decide_eq_true (Int.not_lt.1 (le_sg.1 this)),Ze,aw]
    · simp only [w3];rw [show ((2:Int) != (3:Int))=true from rfl,Ze,show ((2:Int)==(2:Int))=true from rfl,Ze,aw]
    · obtain ⟨_,x,d,_,hd⟩:=hw2.k3 w3;exact (hz.no_ray e1 (row_ray hd)).elim
  · rw [show (z.1==(1:Int))=false by simpa using e1,Zf,aw]
theorem ZWg {α:Type} {A:Rep α} {v:Zb} {cs:List Value} {l:List α} (h:(Zr A).rel v cs l) {x:α} (hx:x ∈ l):∃ c,A.rel v c x:=by
 obtain ⟨q,cap,rfl,h1,h2,h3⟩:=h;rcases h3 with rfl | ⟨b,off,c,T,fr,e,hb,hr⟩
 ·cases hx
 ·obtain ⟨i,hi,rfl⟩:=List.getElem_of_mem hx;exact ⟨_,ZGa hr (List.getElem?_eq_getElem hi)⟩
end Go.Eng
namespace Go.Eng
open Go.RowKit
section
variable {P:Program} {N:Nat} {G:V→Value→Prop} {w0:Base} {v0:Zb} {U X:Nat→Prop} {f:Fr} {l:Lo} {a:Act} {w:World} {γ:Nat→Gh} {v:Zb} {ℓ:List Loc} {n:Nat}
variable {d:Option Nat} {ty:TypeId} {pos:String} {aft:Array Edge} {g:Option (Nat×Bool)}
theorem ZRn {ty:TypeId} {t:T} (hs:St N w0 v0 [] ℓ v a w):∀ k:Nat,∃ es,Zia v ty t (List.replicate k (none,0)) (List.replicate k ([]:List t.den)) es∧St N w0 v0 [] (es++ℓ) v a w
 | 0=>⟨[],rfl,hs⟩
 | k+1=>by
  obtain ⟨es,h1,h2⟩:=ZRn hs k
  exact ⟨.own none ty t.n 0 0 [] :: es,⟨[],es,rfl,rfl,h1⟩,h2.nilLoc ty t.n⟩
theorem Zlr {α:Type}:∀ k:Nat,Zn (List.replicate k ((none:Option Nat),0)) (List.replicate k ([]:List α))=(List.replicate k [Value.slice none 0 0]).flatten
 | 0=>rfl
 | k+1=>by simp only [List.replicate_succ,Zn,List.flatten_cons,Zlr k];rfl
theorem ZOx {C:Cf} (hr:RelX N G w0 v0 U X f l a w γ v ℓ) (hU:∀ k,U k→X k) (hX:X n) (hn:¬ U n) {t:TypeId} {x y:Operand} {o:Oper} {Post:Unit→Fr→Lo→Prop} (ho:o=⟨d,.makeSlice t x y,ty,pos,aft,g⟩) (hd:∀ k,o.dst=some k→k<N)
  (h:Zk n (ZW C n o) f l Post):Zna C.P N G w0 v0 X o a w Post:=by
 subst ho;simp only [ZW] at h;obtain ⟨V1,h1,_,hA⟩:=ZE hr h;obtain ⟨V2,h2,_,hB⟩:=ZE hr hA;obtain ⟨κ,i,rfl,hC⟩:=Z5a hB;obtain ⟨κ',j,rfl,hD⟩:=Z5a hC;clear h hA hB hC;have h:=hD;obtain ⟨e1,_⟩:=Zya h1;obtain ⟨e2,_⟩:=Zya h2;split at h
 ·rename_i q dd hq;obtain ⟨hE,hby⟩:=Zxn hq;obtain ⟨_,hmk,h⟩:=h;obtain ⟨m0,m1,m2,m3⟩:=Znd hmk;obtain ⟨E,hEE,hp⟩:=hr.lr;have hst:=hr.st.perm hp;obtain ⟨σ,hσ,ev1,ev2⟩:=hst.ev2 x y;rw [e1] at ev1;rw [e2] at ev2;obtain ⟨b,w',hrun,hst'⟩:=Zgm hE hσ m0 m1 m2 m3;have hrun':=hrun (d:=some dd) (ty:=ty) (pos:=pos) (aft:=aft) (g:=g) ev1 ev2;split at h
  ·split at h
   ·rename_i q2 r hq2 hz hs1;have hs1:=Nat.eq_of_beq_eq_true hs1;split at h
    ·rename_i s hs;split at h
     ·have hz1:q.z.cells.toList=[.slice none 0 0]:=by
       have h1:=ZXe hz;have h2:=hE.cells;rw [hs1] at h2;have h3:q.z.cells.toList.length=1:=by simpa using h2
       rw [h1] at h3 ⊢;simp at h3;rw [h3]
      obtain ⟨es,hR,hst2⟩:=ZRn (ty:=q2.e) (t:=s) hst'.bare i.toNat;have hst3:St N w0 v0 [] (.own (some b) q.e 1 (List.replicate i.toNat ([]:List s.den)).length j.toNat (Zn (List.replicate i.toNat ((none:Option Nat),0)) (List.replicate i.toNat ([]:List s.den))) :: es++E.flatten) v a w':=by
       rw [Zlr,List.length_replicate];rw [hs1,hz1] at hst2;exact hst2.perm List.perm_middle
      have hrun2:=hrun';rw [show (Value.slice (mkA (some b)) i.toNat j.toNat) = .slice (mkA (some b)) (List.replicate i.toNat ([]:List s.den)).length j.toNat by rw [List.length_replicate]] at hrun2;exact ZSj hr hU hX hn hd hEE rfl hR hst3 hrun2 h
     ·exact h.elim
    ·exact h.elim
   ·exact h.elim
  ·split at h
   ·rename_i s hs;split at h
    ·rename_i z r hz hzo hsz;have hsz:=Nat.eq_of_beq_eq_true hsz;obtain ⟨c1,k1,k2⟩:=Z3r (v:=v) hzo hz;have hl:=Rep.len _ k2;have hc:=hE.cells;have hr0:r=[]:=by
      have:q.z.cells.toList.length=q.sz:=by simpa using hc
      rw [k1,List.length_append,hl,ZS,hsz] at this;exact List.length_eq_zero_iff.1 (by omega)
     rw [hr0,List.append_nil] at k1;have hrel:=Zdg k2 i.toNat;rw [k1] at hst';have hst2:St N w0 v0 [] (.own (some b) q.e s.n (List.replicate i.toNat z).length j.toNat (List.replicate i.toNat c1).flatten :: E.flatten) v a w':=by
      rw [List.length_replicate,← hsz];exact hst'.bare
     have hrun2:=hrun';rw [show (Value.slice (mkA (some b)) i.toNat j.toNat) = .slice (mkA (some b)) (List.replicate i.toNat z).length j.toNat by rw [List.length_replicate]] at hrun2;exact ZYg hr hU hX hn hd hEE rfl hst2 hrel hrun2 h
    ·exact h.elim
   ·exact h.elim
 ·exact h.elim
theorem Zuq {x:V} {cs:List Value} (h:RR v γ l false x cs) (hk:x.ok U):RR v γ l false (Zaf x) cs∧(Zaf x).ok U:=by
 unfold Zaf;split
 ·split
  ·rename_i hc;obtain ⟨h1,h2⟩:=ZVl (U:=U) (γ:=γ) (l:=l) hc h;exact ⟨h1,h2⟩
  ·exact ⟨h,hk⟩
 ·exact ⟨h,hk⟩
theorem Z0n:∀ {fs:List Field},Zqk P fs=true→∀ w,∃ L:List (Nat×Nat),(fs.mapM fun (f:Field)=>(do pure (f.offset,← sizeOf f.type):Sem (Nat×Nat))).run P w = .ok L w∧∀ (i:Nat) fd,fs[i]? = some fd→∃ inf,P.info? fd.type=some inf∧L[i]? = some (fd.offset,inf.size)
 | [],_,w=>⟨[],by simp,fun i fd h=>by simp at h⟩
 | fd :: fs,h,w=>by
  simp only [Zqk] at h
  split at h
  ·rename_i inf hinf
   obtain ⟨L,h1,h2⟩:=Z0n h w
   refine ⟨(fd.offset,inf.size) :: L,?_,fun i fd' hi=>?_⟩
   ·simp at h1
    simp [List.mapM_cons,Z1i hinf,h1]
   ·cases i with
    | zero=>simp at hi;subst hi;exact ⟨inf,hinf,rfl⟩
    | succ i=>simp at hi;simpa using h2 i fd' hi
  ·cases h
theorem ZOr {s:TypeId} {fs:Array Field} (hs:P.underlying s=some (.struct fs)) {places:Nat→Option (Nat×Nat)} (hp:∀ (i:Nat) (fd:Field),fs.toList[i]? = some fd→∃ inf,P.info? fd.type=some inf∧places i=some (fd.offset,inf.size)) :
  ∀ {ps:List (Nat×Operand)} {c z z':V} {cs:List Value} {vals:List Value},RR v γ l true c vals→c.ok U→vals.length=ps.length→RR v γ l false z cs→z.ok U→putF P s z (zipV ps c)=some z' →
  ∃ cs',Instr.fill places cs.toArray ((ps.map (·.1)).zip vals)=some cs'.toArray∧RR v γ l false z' cs'∧z'.ok U∧z'.isAgg=z.isAgg
 | [],c,z,z',cs,vals,hc,hk,hl,hz,hkz,h=>by
  have hv:vals=[]:=List.length_eq_zero_iff.1 hl
  subst hv
  have h:some z=some z':=by
   cases c <;> exact h
  cases h
  exact ⟨cs,rfl,hz,hkz,rfl⟩
 | p :: ps,c,z,z',cs,vals,hc,hk,hl,hz,hkz,h=>by
  cases vals with
  | nil=>simp at hl
  | cons y vals =>
   cases c with
   | cons x c =>
    obtain ⟨cx,vs,e,h1,h2⟩:=hc
    cases e
    simp only [zipV,putF] at h;split at h
    ·rename_i fd hfd;split at h
     ·rename_i q hq;split at h
      ·rename_i zz hsz hfit hput;have hsz:=Nat.eq_of_beq_eq_true hsz;obtain ⟨k1,k2,k3,k4⟩:=Zue FU hput hz h1 hkz hk.1;have hfd':fs.toList[p.1]? = some fd:=by
        unfold fldT at hfd;rw [hs] at hfd;exact hfd
       obtain ⟨inf,hinf,hpl⟩:=hp _ _ hfd';have hlen:cx.length=inf.size:=by
        rw [Zsd h1,hsz];unfold szA at hq;rw [hinf] at hq;split at hq
        ·rename_i i d e1 e2;cases e1;cases hq;rfl
        ·cases hq
       obtain ⟨hcells,_⟩:=Zbk h1 hfit;obtain ⟨cs',q1,q2,q3,q4⟩:=ZOr hs hp (ps:=ps) h2 hk.2 (by simpa using hl) k1 k2 h;refine ⟨cs',?_,q2,q3,q4.trans k4⟩;simp only [List.map_cons,List.zip_cons_cons];rw [Zll (cs:=cx) (off:=fd.offset) (by rw [hpl,hlen]) hcells (by simpa using k3)]
       simpa using q1
      ·cases h
     ·cases h
    ·cases h
   | nl=>cases (show (y :: vals)=[] from hc)
   | _=>exact (show False from hc).elim
theorem Z2o {n sz:Nat} {places:Nat→Option (Nat×Nat)} (hp:∀ i,i<n→places i=some (i*sz,sz)) :
  ∀ {ps:List (Nat×Operand)} {c z z':V} {cs:List Value} {vals:List Value},RR v γ l true c vals→c.ok U→vals.length=ps.length→RR v γ l false z cs→z.ok U→putA n sz z (zipV ps c)=some z' →
  ∃ cs',Instr.fill places cs.toArray ((ps.map (·.1)).zip vals)=some cs'.toArray∧RR v γ l false z' cs'∧z'.ok U∧z'.isAgg=z.isAgg
 | [],c,z,z',cs,vals,hc,hk,hl,hz,hkz,h=>by
  have hv:vals=[]:=List.length_eq_zero_iff.1 hl
  subst hv
  have h:some z=some z':=by
   cases c <;> exact h
  cases h
  exact ⟨cs,rfl,hz,hkz,rfl⟩
 | p :: ps,c,z,z',cs,vals,hc,hk,hl,hz,hkz,h=>by
  cases vals with
  | nil=>simp at hl
  | cons y vals =>
   cases c with
   | cons x c =>
    obtain ⟨cx,vs,e,h1,h2⟩:=hc
    cases e
    simp only [zipV,putA] at h;split at h
    ·rename_i zz hlt hsz hfit hput;have hlt:p.1<n:=Nat.le_of_ble_eq_true hlt;have hsz:=Nat.eq_of_beq_eq_true hsz;obtain ⟨k1,k2,k3,k4⟩:=Zue FU hput hz h1 hkz hk.1;have hlen:cx.length=sz:=by rw [Zsd h1,hsz]
     obtain ⟨hcells,_⟩:=Zbk h1 hfit;obtain ⟨cs',q1,q2,q3,q4⟩:=Z2o hp (ps:=ps) h2 hk.2 (by simpa using hl) k1 k2 h;refine ⟨cs',?_,q2,q3,q4.trans k4⟩;simp only [List.map_cons,List.zip_cons_cons];rw [Zll (cs:=cx) (off:=p.1*sz) (by rw [hp _ hlt,hlen]) hcells (by simpa using k3)]
     simpa using q1
    ·cases h
   | nl=>cases (show (y :: vals)=[] from hc)
   | _=>exact (show False from hc).elim
theorem ZLu {C:Cf} (hr:RelX N G w0 v0 U X f l a w γ v ℓ) (hU:∀ k,U k→X k) (hX:X n) {t:TypeId} {ps:Array (Nat×Operand)} {o:Oper} {Post:Unit→Fr→Lo→Prop} (ho:o=⟨d,.build t ps,ty,pos,aft,g⟩) (hd:∀ k,o.dst=some k→k<N)
  (h:Zk n (ZW C n o) f l Post):Zna C.P N G w0 v0 X o a w Post:=by
 subst ho;simp only [ZW] at h;split at h
 ·rename_i z fs hz ht;split at h
  ·rename_i hfl hag1 hag2;obtain ⟨y,cs,hy,hcells,hzz,hkz,_⟩:=Zwn (v:=v) (γ:=γ) (l:=l) (U:=U) hz;obtain ⟨L,hL1,hL2⟩:=Z0n hfl w;have hA:(fs.mapM fun (f:Field)=>(do pure (f.offset,← sizeOf f.type):Sem (Nat×Nat))).run C.P w = .ok L.toArray w:=by
    rw [Array.mapM_eq_mapM_toList];simp at hL1;simp [hL1]
   have hplaces:∀ (i:Nat) (fd:Field),fs.toList[i]? = some fd→∃ inf,C.P.info? fd.type=some inf∧(L.toArray[·]?) i=some (fd.offset,inf.size):=fun i fd hi=>by
    obtain ⟨inf,h1,h2⟩:=hL2 i fd hi;exact ⟨inf,h1,by simpa using h2⟩
   have hev:∀ (vals:List (Nat×Value)) (cs':List Value),ps.toList.map (fun p=>(p.1,a.eval p.2))=vals→Instr.fill (L.toArray[·]?) cs.toArray vals=some cs'.toArray→(execOp a.eval ⟨d,.build t ps,ty,pos,aft,g⟩).run C.P w = .ok (.value (.agg cs'.toArray)) w:=by
    intro vals cs' hv hf;obtain ⟨σ,hσ,hev⟩:=hr.st.evs (ps.toList.map (·.2));refine ZAq hσ vals ?_ ?_
    ·rw [← hv,List.map_map];refine List.map_congr_left fun p hp=>?_;rw [hev p.2 (List.mem_map.2 ⟨p,hp,rfl⟩)];rfl
    ·simp at hA hf;simp [Instr.build,hy w,hcells,run_underlying ht,hA,hf]
   split at h
   ·rename_i hps;refine ZL hr hU (hev [] cs (by rw [hps];rfl) rfl) hd hX ?_ (V.ok.mono hU hkz) h;have:=Z0b hzz (fun c e=>by subst e;cases hag2);unfold V.val at this;rw [hag2] at this;exact this
   ·rename_i hps;obtain ⟨c,h1,h2,h⟩:=Znf hr h;split at h
    ·rename_i z' hz';obtain ⟨o1,o2⟩:=Zuq hzz hkz;have hvl:=h1;rw [List.map_map] at h1;obtain ⟨cs',k1,k2,k3,k4⟩:=ZOr ht hplaces (ps:=ps.toList) h1 h2 (by simp) o1 o2 hz';refine ZL hr hU (hev _ cs' rfl ?_) hd hX ?_ (V.ok.mono hU k3) h
     ·rw [← k1];congr 1;rw [List.zip_map,← List.map_id (ps.toList.zip ps.toList)];simp [List.zip_eq_zipWith,List.zipWith_self,List.map_map]
     ·have:=Z0b k2 (fun c e=>by subst e;rw [hag1] at k4;cases k4);unfold V.val at this;rw [k4,hag1] at this;exact this
    ·exact h.elim
  ·exact h.elim
 ·rename_i z m e hz ht;split at h
  ·rename_i inf hinf hag1 hag2;obtain ⟨y,cs,hy,hcells,hzz,hkz,_⟩:=Zwn (v:=v) (γ:=γ) (l:=l) (U:=U) hz;obtain ⟨c,h1,h2,h⟩:=Znf hr h;split at h
   ·rename_i z' hz';obtain ⟨o1,o2⟩:=Zuq hzz hkz;rw [List.map_map] at h1;obtain ⟨cs',k1,k2,k3,k4⟩:=Z2o (places:=fun i=>some (i*inf.size,inf.size)) (fun i _=>rfl) (ps:=ps.toList) h1 h2 (by simp) o1 o2 hz';obtain ⟨σ,hσ,hev⟩:=hr.st.evs (ps.toList.map (·.2));have hk1:Instr.fill (fun i=>some (i*inf.size,inf.size)) cs.toArray (ps.toList.map fun p=>(p.1,a.eval p.2))=some cs'.toArray:=by
     rw [← k1];congr 1;rw [List.zip_map,← List.map_id (ps.toList.zip ps.toList)];simp [List.zip_eq_zipWith,List.zipWith_self,List.map_map]
    refine ZL hr hU (ZAq hσ (ps.toList.map fun p=>(p.1,a.eval p.2)) ?_ (z:=.agg cs'.toArray) ?_) hd hX ?_ (V.ok.mono hU k3) h
    ·rw [List.map_map];refine List.map_congr_left fun p hp=>?_;rw [hev p.2 (List.mem_map.2 ⟨p,hp,rfl⟩)];rfl
    ·simp [Instr.build,hy w,hcells,run_underlying ht,Z1i hinf,hk1]
    ·have:=Z0b k2 (fun c e=>by subst e;rw [hag1] at k4;cases k4);unfold V.val at this;rw [k4,hag1] at this;exact this
   ·exact h.elim
  ·exact h.elim
 ·exact h.elim
end
end Go.Eng
namespace Go.Eng
open Go.RowKit
def CT.isAgg:CT→Bool
 | .dat t=>t.agg
 | .agg _=>true
 | _=>false
def CT.vl (c:CT) (cs:List Value):Value:=match c.isAgg with
 | true=>.agg cs.toArray
 | false=>cs.headD Go.undef
def CR (v:Zb):(c:CT)→Bool→c.den→List Value→List Loc→Prop
 | .dat t,false,x,cs,es=>t.rep.rel v cs x∧es=[]
 | .own ty t,false,(xs:List t.den),cs,es=>∃ ob cap d,cs=[.slice (mkA ob) xs.length cap]∧t.rep.rels v d xs∧es=[.own ob ty t.n xs.length cap d]
 | .mat ty ty2 t,false,(m:List (List t.den)),cs,es=>∃ ob cap rows es2,cs=[.slice (mkA ob) m.length cap]∧Zia v ty2 t rows m es2∧es = .own ob ty 1 m.length cap (Zn rows m) :: es2
 | .nl,_,_,cs,es=>cs=[]∧es=[]
 | .one a,false,x,cs,es=>CR v a false x cs es
 | .one a,true,x,cs,es=>∃ c,cs=[a.vl c]∧CR v a false x c es
 | .cons a b,false,x,cs,es=>∃ c1 c2 e1 e2,cs=c1++c2∧es=e1++e2∧CR v a false x.1 c1 e1∧CR v b false x.2 c2 e2
 | .cons a b,true,x,cs,es=>∃ c1 xs e1 e2,cs=a.vl c1 :: xs∧es=e1++e2∧CR v a false x.1 c1 e1∧CR v b true x.2 xs e2
 | .agg c,false,x,cs,es=>CR v c false x cs es
 | .box ty c,false,x,cs,es=>∃ b c1 e1,cs=[.pointer (some ⟨b,0,none⟩)]∧CR v c false x c1 e1∧c1.all plain=true∧es = .box b ty c1 :: e1
 | _,_,_,_,_=>False
def CRL (v:Zb):(c:CT)→c.den→Gh→List Loc→Prop
 | .own ty t,(xs:List t.den),g,es=>∃ ob cap d,g = .own ob cap∧t.rep.rels v d xs∧es=[.own ob ty t.n xs.length cap d]
 | .mat ty ty2 t,(m:List (List t.den)),g,es=>∃ ob cap rows es2,g = .mat ob cap rows∧Zia v ty2 t rows m es2∧es = .own ob ty 1 m.length cap (Zn rows m) :: es2
 | .box ty c,z,g,es=>∃ b c1 e1,g = .box b∧CR v c false z c1 e1∧c1.all plain=true∧es = .box b ty c1 :: e1
 | .agg (.mat ty ty2 t),(m:List (List t.den)),g,es=>∃ ob cap rows es2,g = .mat ob cap rows∧Zia v ty2 t rows m es2∧es = .own ob ty 1 m.length cap (Zn rows m) :: es2
 | _,_,_,_=>False
end Go.Eng
namespace Go.Eng
open Go.RowKit
def ZNa (v:Zb):(ts:List T)→List Value→ZA ts→Prop
 | [],vals,_=>vals=[]
 | [t],vals,x=>∃ cs,vals=[t.rep.val cs]∧t.rep.rel v cs x
 | t :: u :: r,vals,x=>∃ cs vs,vals=t.rep.val cs :: vs∧t.rep.rel v cs x.1∧ZNa v (u :: r) vs x.2
def ZSd (v:Zb) (ts:List T) (y:Value) (z:ZA ts):Prop:=match ts,z with
 | [t],z=>∃ cs,y=t.rep.val cs∧t.rep.rel v cs z
 | ts,z=>∃ vals:List Value,y = .tuple vals.toArray∧ZNa v ts vals z
def Zme (P:Program) (f:FuncId) (c:Con):Prop:=∀ (w:World) (v:Zb) (vals:List Value) (x:ZA c.args) (z:ZA c.res),VIn v w→ZNa v c.args vals x→c.F x=some z →
 (ZM P f∧Ret P f vals.toArray w v fun y v'=>ZSd v' c.res y z) ∨ ∃ y,(∀ w,(callFunc f vals.toArray).run P w = .ok (.value y) w)∧ZSd v c.res y z
def ZWe (P:Program) (f:FuncId) (c:ConO):Prop:=∀ (w:World) (v:Zb) (vals:List Value) (x:ZA c.args) (z:List c.t.den),VIn v w→ZNa v c.args vals x→c.F x=some z →
 ZM P f∧RetO P f vals.toArray w v (OwnR c.t.rep c.ty c.t.n z w)
def ZPi (P:Program) (f:FuncId) (c:ConI):Prop:=∀ (w:World) (v:Zb) (ob:Option Nat) (n cap:Nat) (cs:List Value) (l:List c.t.den) (i:Int) (bv kv:Nat) (c0:Array Value) (x:c.t.den) (z:List c.t.den),VIn v w→(Loc.own ob c.ty c.t.n n cap cs).holds w→(∀ b,ob=some b→v b=none)→c.t.rep.rels v cs l→n=l.length →
 1≤kv→v bv=some (.cells c0 c.ty (0,0))→c.t.rep.rel v (c0.toList.take c.t.n) x→inR .i64 i→c.F l i x=some z →
 ZM P f∧ZSc P f #[.slice (mkA ob) n cap,.int .i64 i,.slice (some ⟨bv,0,none⟩) 1 kv] w v ob.toList (OwnI c.t.rep c.ty c.t.n z ob w)
def OwnM (ty ty2:TypeId) (t:T) (m:List (List t.den)) (w:World) (r:Value) (v':Zb) (w':World):Prop :=
 ∃ ob cap rows es,r = .slice (mkA ob) m.length cap∧Zia v' ty2 t rows m es∧(∀ x ∈ Loc.own ob ty 1 m.length cap (Zn rows m) :: es,x.holds w'∧∀ b,x.blk=some b→w.heap.size≤b∧v' b=none)∧((Loc.own ob ty 1 m.length cap (Zn rows m) :: es).filterMap Loc.blk).Nodup
def Zog (P:Program) (f:FuncId) (c:ConM):Prop:=∀ (w:World) (v:Zb) (vals:List Value) (x:ZA c.args) (z:List (List c.t.den)),VIn v w→ZNa v c.args vals x→c.F x=some z →
 ZM P f∧RetO P f vals.toArray w v (OwnM c.ty c.ty2 c.t z w)
def OwnB (ty:TypeId) (c:CT) (res:List T) (b:Nat) (r:c.den×ZA res) (lent:List Nat) (w:World) (y:Value) (v':Zb) (w':World):Prop :=
 ZSd v' res y r.2∧∃ es',CRL v' (.box ty c) r.1 (.box b) es'∧(∀ e ∈ es',e.holds w'∧∀ k,e.blk=some k→(w.heap.size≤k∨k ∈ lent)∧v' k=none)∧(es'.filterMap Loc.blk).Nodup
def ZIf (P:Program) (f:FuncId) (c:ConB):Prop:=∀ (w:World) (v:Zb) (b:Nat) (es:List Loc) (vals:List Value) (z:c.c.den) (x:ZA c.args) (r:c.c.den×ZA c.res),VIn v w→CRL v (.box c.ty c.c) z (.box b) es→(∀ e ∈ es,e.holds w∧∀ k,e.blk=some k→v k=none)→(es.filterMap Loc.blk).Nodup→ZNa v c.args vals x→c.F z x=some r →
 ZM P f∧ZSc P f (Value.pointer (some ⟨b,0,none⟩) :: vals).toArray w v (es.filterMap Loc.blk) (OwnB c.ty c.c c.res b r (es.filterMap Loc.blk) w)
def Zhg (P:Program) (f:FuncId) (c:ConD):Prop:=∀ (w:World) (v:Zb) (ob:Option Nat) (n cap:Nat) (cs:List Value) (l:List c.t.den) (i j:Int) (z:List c.t.den),VIn v w→(Loc.own ob c.ty c.t.n n cap cs).holds w→(∀ b,ob=some b→v b=none)→c.t.rep.rels v cs l→n=l.length→inR .i64 i→inR .i64 j→c.F l i j=some z →
 ZM P f∧ZSc P f #[.slice (mkA ob) n cap,.int .i64 i,.int .i64 j] w v ob.toList (OwnI c.t.rep c.ty c.t.n z ob w)
structure CfOK (C:Cf):Prop where
 c:∀ f c,ZX C.cons f=some c→Zme C.P f c
 o:∀ f c,ZX C.owns f=some c→ZWe C.P f c
 i:∀ f c,ZX C.ins f=some c→ZPi C.P f c
 m:∀ t s f,lkM C.meths t s=some f→∀ y w,(method (C.P.types.size+Made.depth) t y s).run C.P w = .ok (f,y) w
 q:∀ f c,ZX C.omats f=some c→Zog C.P f c
 b:∀ f c,ZX C.boxs f=some c→ZIf C.P f c
 d:∀ f c,ZX C.dels f=some c→Zhg C.P f c
section
variable {P:Program} {N:Nat} {G:V→Value→Prop} {w0:Base} {v0:Zb} {U X:Nat→Prop} {f:Fr} {l:Lo} {a:Act} {w:World} {γ:Nat→Gh} {v:Zb} {ℓ:List Loc} {n:Nat}
variable {d:Option Nat} {ty:TypeId} {pos:String} {aft:Array Edge} {g:Option (Nat×Bool)}
theorem Zbt (hr:RelX N G w0 v0 U X f l a w γ v ℓ) {lo:Option Operand} {k:Option Int→Ev Unit} {Post:Unit→Fr→Lo→Prop} (h:Zk n (optI lo k) f l Post):∃ i,Zk n (k i) f l Post∧((lo=none∧i=none) ∨ ∃ y κ q,lo=some y∧i=some q∧a.eval y = .int κ q):=by
 cases lo with
 | none=>exact ⟨none,h,.inl ⟨rfl,rfl⟩⟩
 | some y =>
  obtain ⟨V1,h1,_,hA⟩:=ZE hr h;obtain ⟨κ,i,rfl,hB⟩:=Z5a hA;exact ⟨some i,hB,.inr ⟨y,κ,i,rfl,rfl,(Zya h1).1⟩⟩
theorem Znj (hr:RelX N G w0 v0 U X f l a w γ v ℓ) (hU:∀ k,U k→X k) (hX:X n) {t:TypeId} {x:Operand} {lo hi:Option Operand} {o:Oper} {p:V} {i j:Option Int} {Post:Unit→Fr→Lo→Prop} (ho:o=⟨d,.slice t x lo hi none,ty,pos,aft,g⟩) (hd:∀ k,o.dst=some k→k<N) (hp:RV v γ l p (a.eval x))
  (hlo:(lo=none∧i=none) ∨ ∃ y κ q,lo=some y∧i=some q∧a.eval y = .int κ q) (hhi:(hi=none∧j=none) ∨ ∃ y κ q,hi=some y∧j=some q∧a.eval y = .int κ q) (h:Zk n (cutE P o t p i j) f l Post):Zna P N G w0 v0 X o a w Post:=by
 obtain ⟨σ,hσ,hev⟩:=hr.st.evs (x :: (lo.toList++hi.toList));have hx:=hev x (by simp);have h1:∀ m:Int,(ZXf i 0=m)→(lo=none∧m=0) ∨ ∃ y k,lo=some y∧ev σ y=some (.int k m):=by
  intro m hm;rcases hlo with ⟨e1,e2⟩ | ⟨y,κ,q,e1,e2,e3⟩
  ·subst e2;exact .inl ⟨e1,hm.symm⟩
  ·subst e1 e2;have hm:q=m:=hm;exact .inr ⟨y,κ,rfl,by rw [hev y (by simp),e3,hm]⟩
 have h2:∀ (len:Nat) (m:Int),(ZXf j (len:Int)=m)→(hi=none∧m=len) ∨ ∃ y k,hi=some y∧ev σ y=some (.int k m):=by
  intro len m hm;rcases hhi with ⟨e1,e2⟩ | ⟨y,κ,q,e1,e2,e3⟩
  ·subst e2;exact .inl ⟨e1,hm.symm⟩
  ·subst e1 e2;have hm:q=m:=hm;exact .inr ⟨y,κ,rfl,by rw [hev y (by simp),e3,hm]⟩
 unfold cutE at h;split at h
 ·rename_i s xs;obtain ⟨qa,m,c,hy,hR⟩:=ZLl hp;rw [hy] at hx;split at h
  ·rename_i q hq;split at h
   ·rename_i hb;have hb:=Nat.eq_of_beq_eq_true hb;have hSl:=Zml hq;rw [hb,← ZS] at hSl;obtain ⟨yy,hyy,h⟩:=h;obtain ⟨c0,c1,c2,c3,_⟩:=ZTf hyy;obtain ⟨q',cap',hrun,hrel⟩:=ZUu hσ hSl hR c0 c1 c2;rw [← c3] at hrel;subst ho;exact ZL hr hU (hrun hx (h1 _ rfl) (h2 _ _ rfl)) hd hX (x:=.data (.slice s) yy) ⟨[_],hrel,rfl⟩ trivial h
   ·exact h.elim
  ·exact h.elim
 ·obtain ⟨e1,e2⟩:=Zng hp;rw [e1] at hx;split at h
  ·rename_i ht;obtain ⟨yy,hyy,h⟩:=h;subst ho;exact ZL hr hU (Znx hσ hx ht (h1 _ rfl) (h2 _ _ rfl) hyy) hd hX (Z4j (Zpv hyy e2)) trivial h
  ·exact h.elim
 ·exact h.elim
theorem ZCf {ρ:Type}:∀ (g:Nat) {t:T} {x:V} {k:t.den→Ev ρ} {l:Lo} {Post:ρ→Fr→Lo→Prop},Zk n (conv g t x k) f l Post→x.isAgg=t.agg
 | 0,_,_,_,_,_,h=>h.elim
 | g+1,t,x,k,l,Post,h=>by
  cases x with
  | data s x =>
   simp only [conv] at h
   split at h
   ·rename_i y hy
    obtain ⟨e,_⟩:=Z0 hy
    subst e;rfl
   ·split at h
    ·rfl
    ·rfl
    ·rfl
    ·rfl
    ·rfl
    ·split at h
     ·rename_i c hc
      have h1:=ZCf g (x:=.agg c) h
      have h2:s.agg=true:=by
       unfold ZTd at hc;split at hc <;> first | rfl | cases hc
      exact h2.trans h1
     ·exact h.elim
  | nilS =>
   simp only [conv] at h;split at h <;> first | rfl | exact h.elim
  | own u =>
   simp only [conv] at h;obtain ⟨e,he,h⟩:=h;obtain ⟨kk,st,L⟩:=e
   cases L with
   | box _ _=>exact h.elim
   | mid _ _ _ _ _ _=>exact h.elim
   | own ty s xs fz =>
    cases fz with
    | true=>exact ZCf g (x:=.data (.slice s) xs) h
    | false=>exact ZCf g (x:=.data (.slice s) xs) h
   | mat ty _ s m _=>exact ZCf g (x:=.data (.slice (.slice s)) m) h
  | agg c =>
   cases c with
   | cons x1 c =>
    cases c with
    | cons x2 r=>simp only [conv] at h;split at h <;> first | rfl | exact h.elim
    | nl=>simp only [conv] at h;split at h <;> first | rfl | exact h.elim
    | _=>simp only [conv] at h;exact h.elim
   | _=>simp only [conv] at h;exact h.elim
  | ptr u o =>
   cases o with
   | succ _=>simp only [conv] at h;exact h.elim
   | zero=>simp only [conv] at h;split at h <;> first | rfl | exact h.elim
  | _=>simp only [conv] at h;exact h.elim
theorem Zar {x:V} {t:T} {cs:List Value} (h:x.isAgg=t.agg):x.val cs=t.rep.val cs:=by
 unfold V.val Rep.val;rw [h,Z7q]
 cases t.agg <;> rfl
theorem Zfn {v v':Zb} (h:v.le v'):∀ {ts:List T} {vals:List Value} {x:ZA ts},ZNa v ts vals x→ZNa v' ts vals x
 | [],_,_,k=>k
 | [_],_,_,⟨cs,h1,h2⟩=>⟨cs,h1,Rep.mono _ h h2⟩
 | _ :: _ :: _,_,_,⟨cs,vs,h1,h2,h3⟩=>⟨cs,vs,h1,Rep.mono _ h h2,Zfn h h3⟩
theorem Zwf {ρ:Type} (hn:¬ U n) (hX:X n):∀ {ts:List T} {c:V} {k:ZA ts→Ev ρ} {l:Lo} {γ:Nat→Gh} {v:Zb} {ℓ:List Loc} {Post:ρ→Fr→Lo→Prop},Zk n (Zfe ts c k) f l Post→RelX N G w0 v0 U X f l a w γ v ℓ→c.ok U →
  ∃ x l' γ' v' ℓ',Zk n (k x) f l' Post∧RelX N G w0 v0 U X f l' a w γ' v' ℓ'∧Le U v γ l v' γ' l'∧∀ vals,RR v γ l true c vals→ZNa v' ts vals x
 | [],c,k,l,γ,v,ℓ,Post,h,hr,hk=>by
  obtain ⟨E,hE,_⟩:=hr.lr
  cases c with
  | nl=>exact ⟨(),l,γ,v,ℓ,h,hr,Le.refl hE (Zb.le_refl _),fun vals hv=>hv⟩
  | _=>exact h.elim
 | [t],c,k,l,γ,v,ℓ,Post,h,hr,hk=>by
  cases c with
  | cons x c =>
   cases c with
   | nl =>
    have hag:=ZCf FU (n:=n) (f:=f) (l:=l) (t:=t) (x:=x) h
    obtain ⟨y,l1,γ1,v1,ℓ1,h,r1,le1,q1⟩:=Zfd hn hX FU h hr hk.1
    refine ⟨y,l1,γ1,v1,ℓ1,h,r1,le1,fun vals hv=>?_⟩
    obtain ⟨cs,vs,rfl,h1,h2⟩:=hv
    have h2:vs=[]:=h2
    subst h2
    exact ⟨cs,by rw [Zar hag],q1 _ h1⟩
   | _=>exact h.elim
  | _=>exact h.elim
 | t :: u :: r,c,k,l,γ,v,ℓ,Post,h,hr,hk=>by
  cases c with
  | cons x c =>
   have h':Zk n (conv FU t x fun x=>Zfe (u :: r) c fun y=>k (x,y)) f l Post:=by
    cases c <;> exact h
   have hag:=ZCf FU (n:=n) (f:=f) (l:=l) (t:=t) (x:=x) h';obtain ⟨y,l1,γ1,v1,ℓ1,h1,r1,le1,q1⟩:=Zfd hn hX FU h' hr hk.1;obtain ⟨ys,l2,γ2,v2,ℓ2,h2,r2,le2,q2⟩:=Zwf hn hX h1 r1 hk.2;refine ⟨(y,ys),l2,γ2,v2,ℓ2,h2,r2,le1.trans le2,fun vals hv=>?_⟩;obtain ⟨cs,vs,rfl,h3,h4⟩:=hv;exact ⟨cs,vs,by rw [Zar hag],Rep.mono _ le2.v (q1 _ h3),q2 _ (Zcb le1 hk.2 h4)⟩
  | _=>exact h.elim
theorem Zmr {v:Zb}:∀ {ts:List T} {vals:List Value} {x:ZA ts},ZNa v ts vals x→RR v γ l true (ZKe ts x) vals∧(ZKe ts x).ok U
 | [],_,_,h=>⟨h,trivial⟩
 | [t],_,x,⟨cs,h1,h2⟩=>⟨⟨cs,[],by rw [h1];exact congrArg (fun z=>[z]) (Z8f (t:=t) (x:=x) (cs:=cs)).symm,h2,rfl⟩,trivial,trivial⟩
 | t :: u :: r,_,x,⟨cs,vs,h1,h2,h3⟩=>by
  obtain ⟨k1,k2⟩:=Zmr h3
  exact ⟨⟨cs,vs,by rw [h1];exact congrArg (· :: vs) (Z8f (t:=t) (x:=x.1) (cs:=cs)).symm,h2,k1⟩,trivial,k2⟩
theorem ZYk {v:Zb} {ts:List T} {y:Value} {z:ZA ts} (h:ZSd v ts y z):RV v γ l (Zad (ZKe ts z)) y∧(Zad (ZKe ts z)).ok U:=by
 match ts,z,h with
 | [],z,⟨vals,h1,h2⟩=>exact ⟨⟨vals,h2,h1⟩,trivial⟩
 | [t],z,⟨cs,h1,h2⟩=>exact ⟨⟨cs,h2,by rw [h1];exact (Z8f (t:=t) (x:=z) (cs:=cs)).symm⟩,trivial⟩
 | t :: u :: r,z,⟨vals,h1,h2⟩ =>
  obtain ⟨k1,k2⟩:=Zmr (γ:=γ) (l:=l) (U:=U) h2
  cases r <;> exact ⟨⟨vals,k1,h1⟩,k2⟩
theorem Zcr {σ:List (Nat×Value)} (hS:St N w0 v0 σ ℓ v a w) {x:Operand} {m:String} {f:FuncId} {xs:Array Operand} {ats:Array TypeId} {t:TypeId} {y:Value} (vals:List Value) (hm:∀ w,(method (P.types.size+Made.depth) t y m).run P w = .ok (f,y) w) (e:ev σ x=some (.iface t y))
  (h:xs.toList.map (ev σ)=vals.map some) {r:Go.Next} (hf:(callFunc f (y :: vals).toArray).run P w = .ok r w):(execOp a.eval ⟨d,.call ⟨.invoke x m,xs,ats⟩,ty,pos,aft,g⟩).run P w = .ok r w:=by
 have hx:xs.map a.eval=vals.toArray:=by
  apply Array.ext';rw [Array.toList_map];generalize xs.toList=l at h;clear hf
  induction l generalizing vals with
  | nil=>cases vals <;> simp_all
  | cons y l ih =>
   cases vals with
   | nil=>simp at h
   | cons u vals =>
    simp at h;simp [hS.eval h.1,ih vals h.2]
 simp [execOp,resolve,invoke,callMethod,hx,hS.eval e,hm,hf]
theorem ZCm (hr:RelX N G w0 v0 U X f l a w γ v ℓ) (hU:∀ k,U k→X k) (hX:X n) (hn:¬ U n) {e:TypeId} {s:T} {xs:List s.den} {o:Oper} {ob:Option Nat} {cap:Nat} {cs:List Value} {Post:Unit→Fr→Lo→Prop} (hd:∀ k,o.dst=some k→k<N)
  (hst:St N w0 v0 [] (.own ob e s.n xs.length cap cs :: ℓ) v a w) (hc:s.rep.rels v cs xs) (h:Zk n (Ev.new n (.own e s xs false) (ret o (.own n))) f l Post):∃ f' l',Post () f' l'∧Rel N G w0 v0 X f' l' (a.put o.dst (.slice (mkA ob) xs.length cap)) w:=by
 obtain ⟨hnew,h⟩:=h;obtain ⟨E,hE,hpm⟩:=hr.lr;have hr':=hr.new (γ':=Zbc γ n (.own ob cap)) (L':=.own e s xs false) hX hX hn hnew hE (hst.perm (List.Perm.cons _ hpm)) (Zb.le_refl _) (fun _ h=>ZYb h) ⟨ob,cap,cs,Z4a,hc,rfl⟩ (List.Perm.refl _) trivial;unfold ret at h
 cases hdd:o.dst with
 | none=>rw [hdd] at h;exact h.elim
 | some d =>
  rw [hdd] at h;refine ⟨_,_,h,_,_,_,(hr'.mono hU fun _ h=>h).put (hd d hdd) (x:=.own n) ⟨[_],⟨_,rfl,by cases ob <;> rfl,fun e' he'=>?_⟩,rfl⟩ hX hX⟩;rw [ZR,if_pos rfl] at he';cases he';exact ⟨_,_,Z4a,rfl⟩
theorem St.addL {K:Nat} {w0:Base} {v0:Zb} {σ:List (Nat×Value)} {ℓ es:List Loc} {v:Zb} {a:Act} {w:World} {s:Nat} (h:St K w0 v0 σ ℓ v a w) (hs:w0.wd.heap.size≤s) (hnew:∀ x ∈ es,x.holds w∧∀ b,x.blk=some b→s≤b∧v b=none) (hnd:(es.filterMap Loc.blk).Nodup) (hold:∀ x ∈ ℓ,∀ b,x.blk=some b→b<s):St K w0 v0 σ (es++ℓ) v a w:=by
 refine ⟨h.size,h.dfr,h.fr,h.ext,h.vst,fun x hx=>?_,?_⟩
 ·rcases List.mem_append.1 hx with hx | hx
  ·exact ⟨(hnew x hx).1,fun b eb=>⟨.inl (Nat.le_trans hs ((hnew x hx).2 b eb).1),((hnew x hx).2 b eb).2⟩⟩
  ·exact h.loc x hx
 ·rw [List.filterMap_append];refine List.nodup_append.2 ⟨hnd,h.nd,fun b hb b' hb' e=>?_⟩;subst e;obtain ⟨x,hx,hxb⟩:=List.mem_filterMap.1 hb;obtain ⟨y,hy,hyb⟩:=List.mem_filterMap.1 hb';have h1:=((hnew x hx).2 b hxb).1;have h2:=hold y hy b hyb;omega
theorem put_mat (hr:RelX N G w0 v0 U X f l a w γ v ℓ) (hU:∀ k,U k→X k) (hX:X n) (hn:¬ U n) {ty ty2:TypeId} {t:T} {m:List (List t.den)} {o:Oper} {ob:Option Nat} {cap:Nat} {rows:List (Option Nat×Nat)} {es:List Loc} {Post:Unit→Fr→Lo→Prop} (hd:∀ k,o.dst=some k→k<N)
  (hst:St N w0 v0 [] ((.own ob ty 1 m.length cap (Zn rows m) :: es)++ℓ) v a w) (hc:Zia v ty2 t rows m es) (h:Zk n (Ev.new n (.mat ty ty2 t m n) (ret o (.own n))) f l Post):∃ f' l',Post () f' l'∧Rel N G w0 v0 X f' l' (a.put o.dst (.slice (mkA ob) m.length cap)) w:=by
 obtain ⟨hnew,h⟩:=h;obtain ⟨E,hE,hpm⟩:=hr.lr;have hr':=hr.new (γ':=Zbc γ n (.mat ob cap rows)) (L':=.mat ty ty2 t m n) (es':=.own ob ty 1 m.length cap (Zn rows m) :: es) hX hX hn hnew hE (hst.perm (List.Perm.append_left _ hpm)) (Zb.le_refl _) (fun _ h=>ZYb h) ⟨ob,cap,rows,es,Z4a,hc,rfl⟩ (List.Perm.refl _) hX;unfold ret at h
 cases hdd:o.dst with
 | none=>rw [hdd] at h;exact h.elim
 | some d =>
  rw [hdd] at h;refine ⟨_,_,h,_,_,_,(hr'.mono hU fun _ h=>h).put (hd d hdd) (x:=.own n) ⟨[_],⟨_,rfl,by cases ob <;> rfl,fun e' he'=>?_⟩,rfl⟩ hX hX⟩;rw [ZR,if_pos rfl] at he';cases he';exact ⟨_,_,_,Z4a,rfl⟩
theorem Zco {c:ConI} {fid:FuncId} (hI:ZPi P fid c) (hr:RelX N G w0 v0 U X f l a w γ v ℓ) (hU:∀ k,U k→X k) (hX:X n) (hn:¬ U n) {o:Oper} {Post:Unit→Fr→Lo→Prop} (hd:∀ k,o.dst=some k→k<N) {ob:Option Nat} {cap:Nat} {cs:List Value} {xs:List c.t.den} {i:Int} {bv kv:Nat} {c0:Array Value} {x:c.t.den} {z:List c.t.den}
  (hst:St N w0 v0 [] (.own ob c.ty c.t.n xs.length cap cs :: ℓ) v a w) (hA:c.t.rep.rels v cs xs) (hkv:1≤kv) (hbv:v bv=some (.cells c0 c.ty (0,0))) (hx:c.t.rep.rel v (c0.toList.take c.t.n) x) (hi:inR .i64 i) (hz:c.F xs i x=some z)
  (hent:ZM P fid→(execOp a.eval o).run P w = .ok (.enter fid #[.slice (mkA ob) xs.length cap,.int .i64 i,.slice (some ⟨bv,0,none⟩) 1 kv]) w) (h:Zk n (Ev.new n (.own c.ty c.t z false) (ret o (.own n))) f l Post):Zna P N G w0 v0 X o a w Post:=by
 obtain ⟨hh,hb⟩:=hst.loc _ List.mem_cons_self;obtain ⟨hen,hret⟩:=hI w v ob xs.length cap cs xs i bv kv c0 x z hst.vin hh (fun b e=>(hb b e).2) hA rfl hkv hbv hx hi hz;refine ZGc (hent hen) (Calls.mono hret fun e w' ⟨r,v',e1,e2,e3,e4⟩=>⟨r,e1,?_⟩);obtain ⟨ob',n',cap',cs',rfl,hh',hb',hA',hn'⟩:=e4;subst hn';have hS:=hst.afterI (i:=0) (e':=.own ob' c.ty c.t.n z.length cap' cs') rfl e2 e3 hh' fun b hb=>by
  obtain ⟨q1,q2⟩:=hb' b hb;exact ⟨q1,q2⟩
 have hS:St N w0 v0 [] (.own ob' c.ty c.t.n z.length cap' cs' :: ℓ) v' a w':=hS;exact ZCm (hr.go e3.le (hS.drop (List.sublist_cons_self _ _))) hU hX hn hd hS hA' h
theorem Zax {c:ConD} {fid:FuncId} (hI:Zhg P fid c) (hr:RelX N G w0 v0 U X f l a w γ v ℓ) (hU:∀ k,U k→X k) (hX:X n) (hn:¬ U n) {o:Oper} {Post:Unit→Fr→Lo→Prop} (hd:∀ k,o.dst=some k→k<N) {ob:Option Nat} {cap:Nat} {cs:List Value} {xs:List c.t.den} {i j:Int} {z:List c.t.den}
  (hst:St N w0 v0 [] (.own ob c.ty c.t.n xs.length cap cs :: ℓ) v a w) (hA:c.t.rep.rels v cs xs) (hi:inR .i64 i) (hj:inR .i64 j) (hz:c.F xs i j=some z)
  (hent:ZM P fid→(execOp a.eval o).run P w = .ok (.enter fid #[.slice (mkA ob) xs.length cap,.int .i64 i,.int .i64 j]) w) (h:Zk n (Ev.new n (.own c.ty c.t z false) (ret o (.own n))) f l Post):Zna P N G w0 v0 X o a w Post:=by
 obtain ⟨hh,hb⟩:=hst.loc _ List.mem_cons_self;obtain ⟨hen,hret⟩:=hI w v ob xs.length cap cs xs i j z hst.vin hh (fun b e=>(hb b e).2) hA rfl hi hj hz;refine ZGc (hent hen) (Calls.mono hret fun e w' ⟨r,v',e1,e2,e3,e4⟩=>⟨r,e1,?_⟩);obtain ⟨ob',n',cap',cs',rfl,hh',hb',hA',hn'⟩:=e4;subst hn';have hS:=hst.afterI (i:=0) (e':=.own ob' c.ty c.t.n z.length cap' cs') rfl e2 e3 hh' fun b hb=>by
  obtain ⟨q1,q2⟩:=hb' b hb;exact ⟨q1,q2⟩
 have hS:St N w0 v0 [] (.own ob' c.ty c.t.n z.length cap' cs' :: ℓ) v' a w':=hS;exact ZCm (hr.go e3.le (hS.drop (List.sublist_cons_self _ _))) hU hX hn hd hS hA' h
theorem ZKo {C:Cf} (hC:CfOK C) (hr:RelX N G w0 v0 U X f l a w γ v ℓ) (hU:∀ k,U k→X k) (hX:X n) (hn:¬ U n) {fid:FuncId} {c:V} {vals:List Value} {o:Oper} {Post:Unit→Fr→Lo→Prop} (hd:∀ k,o.dst=some k→k<N)
  (hent:ZM C.P fid→(execOp a.eval o).run C.P w = .ok (.enter fid vals.toArray) w) (hval:∀ y,(∀ w,(callFunc fid vals.toArray).run C.P w = .ok (.value y) w)→(execOp a.eval o).run C.P w = .ok (.value y) w)
  (hc:RR v γ l true c vals) (hk:c.ok U) (h:Zk n (Z0j C n o fid c) f l Post):Zna C.P N G w0 v0 X o a w Post:=by
 unfold Z0j at h;split at h
 ·rename_i con hcon;obtain ⟨p,l1,γ1,v1,ℓ1,h,r1,le1,q1⟩:=Zwf hn hX h hr hk;obtain ⟨z,hz,h⟩:=h;have hR:=q1 _ hc;rcases hC.c fid con hcon w v1 _ p z r1.st.vin hR hz with ⟨hen,hret⟩ | ⟨y,hv,hres⟩
  ·refine ZGc (hent hen) (Calls.mono hret fun e w' ⟨r,v',e1,e2,e3,e4⟩=>⟨r,e1,?_⟩);have r2:=r1.go e3.le (r1.st.step e2 e3);obtain ⟨k1,k2⟩:=ZYk (γ:=γ1) (l:=l1) (U:=X) e4;unfold ret at h
   cases hdd:o.dst with
   | none=>rw [hdd] at h;exact h.elim
   | some dd =>
    rw [hdd] at h;exact ⟨_,_,h,_,_,_,(r2.mono hU fun _ h=>h).put (hd dd hdd) k1 k2 hX⟩
  ·obtain ⟨k1,k2⟩:=ZYk (γ:=γ1) (l:=l1) (U:=X) hres;exact ZL r1 hU (hval y hv) hd hX k1 k2 h
 ·split at h
  ·rename_i con hcon;obtain ⟨p,l1,γ1,v1,ℓ1,h,r1,le1,q1⟩:=Zwf hn hX h hr hk;obtain ⟨z,hz,h⟩:=h;have hR:=q1 _ hc;obtain ⟨hen,hret⟩:=hC.o fid con hcon w v1 _ p z r1.st.vin hR hz;refine ZGc (hent hen) (Calls.mono hret fun e w' ⟨r,v',e1,e2,e3,e4⟩=>⟨r,e1,?_⟩);obtain ⟨ob,n',cap,cs,rfl,hh,hb,hA,hn'⟩:=e4;subst hn';have h':=r1.st.step e2 e3;refine ZCm (r1.go e3.le h') hU hX hn hd (cs:=cs) ⟨h'.size,h'.dfr,h'.fr,h'.ext,h'.vst,fun x hx=>?_,?_⟩ hA h
   ·rcases List.mem_cons.1 hx with rfl | hx
    ·exact ⟨hh,fun b eb=>⟨.inl (Nat.le_trans r1.st.ext.size (hb b eb).1),(hb b eb).2⟩⟩
    ·exact h'.loc x hx
   ·cases ob with
    | none=>rw [List.filterMap_cons_none (show (Loc.own none con.ty con.t.n z.length cap cs).blk=none from rfl)];exact h'.nd
    | some b =>
     rw [List.filterMap_cons_some (show (Loc.own (some b) con.ty con.t.n z.length cap cs).blk=some b from rfl)];refine List.nodup_cons.2 ⟨fun hm=>?_,h'.nd⟩;obtain ⟨x,hx,hxb⟩:=List.mem_filterMap.1 hm;obtain ⟨c,T',hg⟩:=Loc.blk_get (r1.st.loc x hx).1 hxb;have h1:=Z7d hg;have h2:=(hb b rfl).1;omega
  ·split at h
   ·rename_i con hcon;have hI:=hC.i fid con hcon;unfold insE at h;split at h
    ·rename_i A i u2;obtain ⟨cA,xs1,rfl,hA1,xs2,xs3,rfl,hI1,xs4,xs5,rfl,hU2,hnl⟩:=hc;have hnl:xs5=[]:=hnl;subst hnl;obtain ⟨e2,he2,h⟩:=h;obtain ⟨k2,st2,L2⟩:=e2;have hk2:k2=u2:=(Zq he2).2;subst hk2
     cases L2 with
     | own ty2 s2 l2 fz =>
      cases fz with
      | true=>exact h.elim
      | false =>
       simp only at h;split at h
       ·rename_i x hty hcast;have hty:=Nat.eq_of_beq_eq_true hty;subst hty;obtain ⟨c3,c4⟩:=Z0 hcast;obtain ⟨es2,E2,g1,_,_,g3,r1⟩:=hr.del he2;obtain ⟨ob2,cap2,cs2,g4,g5,rfl⟩:=g1;have g4:γ k2 = .own ob2 cap2:=g4;obtain ⟨y2,rfl,_,hy2⟩:=hU2;obtain ⟨ob2',cap2',g6,g7⟩:=hy2 _ he2;rw [g4] at g6;cases g6;have hst2:=hr.st.perm g3;obtain ⟨hh2,hb2⟩:=hst2.loc _ List.mem_cons_self;have hc3:s2=con.t:=by injection c3
        subst hc3;have hl2:l2=[x]:=c4;subst hl2
        cases ob2 with
        | none=>obtain ⟨q,_⟩:=hh2;cases q
        | some bv =>
         obtain ⟨hl,cur,hg,hle,_,hcz,htk⟩:=hh2;obtain ⟨v1,hv1,hv2,hst3⟩:=hst2.publish (i:=0) (ℓ':=E2.flatten) rfl rfl hg rfl;have r2:=r1.go hv1 hst3;have hx1:con.t.rep.rel v1 (cur.toList.take con.t.n) x:=by
          have hq:con.t.rep.rels v1 cs2 [x]:=ZN hv1 g5;obtain ⟨d1,d2,e1,e2,e3⟩:=hq;have e3:d2=[]:=e3;subst e3;rw [List.append_nil] at e1;subst e1;have:cur.toList.take ([x].length*con.t.n)=cs2:=htk;rw [show [x].length*con.t.n=con.t.n by simp] at this;rw [this];exact e2
         have hi:inR .i64 i:=by obtain ⟨_,q⟩:=hI1;exact q
         have hiv:(V.data (.int .i64) i).val xs2 = .int .i64 i:=by obtain ⟨q,_⟩:=hI1;subst q;rfl
         have hle0:=Le.era hr k2;have lv:Le U v γ l v1 γ (era l k2):=hle0.trans (by obtain ⟨EE,hEE,_⟩:=r1.lr;exact Le.refl hEE hv1)
         cases A with
         | own u =>
          simp only at h;obtain ⟨e,he,h⟩:=h;obtain ⟨k,st,L⟩:=e;have hkk:k=u:=(Zq he).2;subst hkk
          cases L with
          | own ty s xs fz =>
           cases fz with
           | true=>exact h.elim
           | false =>
            simp only at h;split at h
            ·rename_i l' hty hcast;have hty:=Nat.eq_of_beq_eq_true hty;subst hty;obtain ⟨c5,c6⟩:=Z0 hcast;have hc5:s=con.t:=by injection c5
             subst hc5;have hl':xs=l':=c6;subst hl';obtain ⟨z,hz,h⟩:=h;obtain ⟨es,E3,d1,_,_,d3,r3⟩:=r2.del he;obtain ⟨ob,cap,cs,d4,d5,rfl⟩:=d1;have d4:γ k = .own ob cap:=d4;have hA2:=Zcb lv (x:=.own k) hk.1 hA1;obtain ⟨y,rfl,_,hy⟩:=hA2;obtain ⟨ob',cap',d6,d7⟩:=hy _ he;rw [d4] at d6;cases d6;refine Zco hI r3 hU hX hn hd (hst3.perm d3) d5 (kv:=cap2) (by simpa using hle) hv2 hx1 hi hz (fun hen=>?_) h;rw [hent hen,Zxf (x:=.own k) rfl,d7,hiv,Zxf (x:=.own k2) rfl,g7];rfl
            ·exact h.elim
          | box _ _=>exact h.elim
          | mid _ _ _ _ _ _=>exact h.elim
          | mat _ _ _ _ _=>exact h.elim
         | nilS =>
          simp only at h;obtain ⟨z,hz,h⟩:=h;have hA1:cA=[.slice none 0 0]:=hA1;subst hA1;refine Zco hI r2 hU hX hn hd (ob:=none) (cap:=0) (cs:=[]) (xs:=[]) (hst3.nilLoc con.ty con.t.n) rfl (kv:=cap2) (by simpa using hle) hv2 hx1 hi hz (fun hen=>?_) h;rw [hent hen,hiv,Zxf (x:=.own k2) rfl,g7];rfl
         | _=>exact h.elim
       ·exact h.elim
     | box _ _=>exact h.elim
     | mid _ _ _ _ _ _=>exact h.elim
     | mat _ _ _ _ _=>exact h.elim
    ·exact h.elim
   ·split at h
    ·rename_i con hcon;obtain ⟨p,l1,γ1,v1,ℓ1,h,r1,le1,q1⟩:=Zwf hn hX h hr hk;obtain ⟨z,hz,h⟩:=h;have hR:=q1 _ hc;obtain ⟨hen,hret⟩:=hC.q fid con hcon w v1 _ p z r1.st.vin hR hz;refine ZGc (hent hen) (Calls.mono hret fun e w' ⟨r,v',e1,e2,e3,e4⟩=>⟨r,e1,?_⟩);obtain ⟨ob,cap,rows,es,rfl,hA,hh,hb⟩:=e4;have h':=r1.st.step e2 e3;refine put_mat (r1.go e3.le h') hU hX hn hd (h'.addL r1.st.ext.size hh hb fun x hx b hxb=>?_) hA h;obtain ⟨c,T',hg⟩:=Loc.blk_get (r1.st.loc x hx).1 hxb;exact Z7d hg
    ·split at h
     ·rename_i con hcon;have hI:=hC.d fid con hcon;unfold delE at h;split at h
      ·rename_i u i j;obtain ⟨cA,x1,rfl,hA,cI,x2,rfl,hI1,cJ,x3,rfl,hJ,hnl⟩:=hc;have hnl:x3=[]:=hnl;subst hnl;obtain ⟨e,he,h⟩:=h;obtain ⟨kk,st,L⟩:=e;have hkk:kk=u:=(Zq he).2;subst hkk
       cases L with
       | own ty s xs fz =>
        cases fz with
        | true=>exact h.elim
        | false =>
         simp only at h;split at h
         ·rename_i ys hty hcast;have hty:=Nat.eq_of_beq_eq_true hty;subst hty;obtain ⟨c5,c6⟩:=Z0 hcast;have hc5:s=con.t:=by injection c5
          subst hc5;have hl':xs=ys:=c6;subst hl';obtain ⟨z,hz,h⟩:=h;obtain ⟨es,E',h1,_,h2,h3,r1⟩:=hr.del he;obtain ⟨ob,cap,cs,g1,g2,rfl⟩:=h1;have g1:γ kk = .own ob cap:=g1;obtain ⟨y,rfl,_,hy⟩:=hA;obtain ⟨ob',cap',g3,g4⟩:=hy _ he;rw [g1] at g3;cases g3;have hi:inR .i64 i:=by obtain ⟨_,q⟩:=hI1;exact q
          have hiv:(V.data (.int .i64) i).val cI = .int .i64 i:=by obtain ⟨q,_⟩:=hI1;subst q;rfl
          have hj:inR .i64 j:=by obtain ⟨_,q⟩:=hJ;exact q
          have hjv:(V.data (.int .i64) j).val cJ = .int .i64 j:=by obtain ⟨q,_⟩:=hJ;subst q;rfl
          refine Zax hI r1 hU hX hn hd (hr.st.perm h3) g2 hi hj hz (fun hen=>?_) h;rw [hent hen,Zxf (x:=.own kk) rfl,g4,hiv,hjv]
         ·exact h.elim
       | box _ _=>exact h.elim
       | mid _ _ _ _ _ _=>exact h.elim
       | mat _ _ _ _ _=>exact h.elim
      ·exact h.elim
     ·exact h.elim
theorem Z1q:∀ {c:V} {i:Nat} {z:V} {vals:List Value},nthV c i=some z→RR v γ l true c vals→c.ok U→∃ y,vals[i]? = some y∧RV v γ l z y∧z.ok U
 | .cons x c,0,z,vals,h,hr,hk=>by
  cases h
  obtain ⟨cs,xs,rfl,h1,h2⟩:=hr
  exact ⟨_,rfl,Z0b h1 (fun c e=>by subst e;exact h1),hk.1⟩
 | .cons x c,i+1,z,vals,h,hr,hk=>by
  obtain ⟨cs,xs,rfl,h1,h2⟩:=hr
  obtain ⟨y,k1,k2,k3⟩:=Z1q (c:=c) h h2 hk.2
  exact ⟨y,by simpa using k1,k2,k3⟩
theorem ZXs {v:Zb} {a:T}:∀ {n:Nat} {x:(Zre a n).den} {cs:List Value},0<n→(Zre a n).rep.rel v cs x→a.rep.rels v cs (Zce a n x)∧(Zce a n x).length=n
 | 0,_,_,h,_=>by omega
 | 1,x,cs,_,h=>⟨Z6k h,rfl⟩
 | 2,x,cs,_,h=>by
  obtain ⟨c1,c2,h1,h2,h3⟩:=h
  exact ⟨⟨c1,c2,h1,h2,Z6k h3⟩,rfl⟩
 | k+3,x,cs,_,h=>by
  obtain ⟨c1,c2,h1,h2,h3⟩:=h
  obtain ⟨k1,k2⟩:=ZXs (n:=k+2) (by omega) h3
  exact ⟨⟨c1,c2,h1,h2,k1⟩,by show (Zce a (k+2) x.2).length+1=_;rw [k2]⟩
theorem RelX.slot (h:RelX N G w0 v0 U X f l a w γ v ℓ) {t m:Nat} {z:V} (hr:RV v γ l z (a.tmps.getD t undef)) (hk:z.ok U) (hX:X m):RelX N G w0 v0 U X (⟨t,m,z⟩ :: f) l a w γ v ℓ:=by
 refine ⟨h.st,fun t' e' he'=>?_,h.lr,h.nd,fun t' e' he'=>?_,h.ul,h.gh⟩
 ·rw [ZR] at he';split at he'
  ·rename_i hk'
   cases he'
   have hk':t=t':=hk';rw [← hk'];exact hr
  ·exact h.fr t' e' he'
 ·rw [ZR] at he';split at he'
  ·cases he';exact ⟨hk,hX⟩
  ·exact h.uf t' e' he'
theorem Zoy {σ:List (Nat×Value)} (hS:St N w0 v0 σ ℓ v a w) {t e:TypeId} {n b:Nat} {i:TypeInfo} {x:Operand} (ht:P.underlying t=some (.array n e)) (hi:P.info? e=some i) (e1:ev σ x=some (.pointer (some ⟨b,0,none⟩))) :
  (execOp a.eval ⟨d,.slice t x none none none,ty,pos,aft,g⟩).run P w = .ok (.value (.slice (some ⟨b,0,none⟩) n n)) w:=by
 have h2:∀ w,(underlying t).run P w = .ok (.array n e) w:=fun w=>run_underlying ht w;have h3:∀ w,(sizeOf e).run P w = .ok i.size w:=fun w=>by simp [sizeOf,typeInfo,hi]
 by_cases hn:n=0
 ·subst hn;simp [execOp,Instr.sliceAt,Instr.sureAddr,hS.eval e1,h2,h3,Instr.sliceBounds,Zxa]
 ·simp [execOp,Instr.sliceAt,Instr.sureAddr,hS.eval e1,h2,h3,Instr.sliceBounds,Zxa]
theorem arrE_ok {C:Cf} (hr:RelX N G w0 v0 U X f l a w γ v ℓ) (hU:∀ k,U k→X k) (hX:X n) (hn:¬ U n) {t:TypeId} {s u off:Nat} {lo hi:Option Operand} {i j:Option Int} {o:Oper} {Post:Unit→Fr→Lo→Prop} (ho:o=⟨d,.slice t (.tmp s) lo hi none,ty,pos,aft,g⟩) (hd:∀ k,o.dst=some k→k<N) (hp:RV v γ l (.ptr u off) (a.eval (.tmp s))) (hk:U u)
  (hlo:(lo=none∧i=none) ∨ ∃ y κ q,lo=some y∧i=some q∧a.eval y = .int κ q) (hhi:(hi=none∧j=none) ∨ ∃ y κ q,hi=some y∧j=some q∧a.eval y = .int κ q) (h:Zk n (arrE C o t s u off i j) f l Post):Zna C.P N G w0 v0 X o a w Post:=by
 unfold arrE at h;split at h
 ·rename_i m e h0 hu;have h0:=Nat.eq_of_beq_eq_true h0;subst h0;have hlo:lo=none:=by
   rcases hlo with h1 | ⟨_,_,_,_,h1,_⟩
   ·exact h1.1
   ·cases h1
  have hhi:hi=none:=by
   rcases hhi with h1 | ⟨_,_,_,_,h1,_⟩
   ·exact h1.1
   ·cases h1
  subst hlo hhi;split at h
  ·rename_i α q hα hq hm0 hm1;have hm0:1≤m:=Nat.le_of_ble_eq_true hm0;have hm1:=Nat.le_of_ble_eq_true hm1;split at h
   ·obtain ⟨⟨k0,st0,L⟩,he,h⟩:=h;have hkk:k0=u:=(Zq he).2;subst hkk
    cases L with
    | box ty0 c =>
     simp only at h;obtain ⟨y,hy0,_,hy⟩:=Zca hp (fun _ e=>by cases e) rfl rfl;have hy0:a.eval (.tmp s)=y:=(List.cons.inj hy0).1;obtain ⟨b,g1,rfl⟩:=hy _ he;obtain ⟨es,E',h1,_,_,h3,_⟩:=hr.del he;obtain ⟨b',cs,g2,g3,g4,rfl⟩:=h1;have g2:γ k0 = .box b':=g2;rw [g1] at g2;cases g2;obtain ⟨x1,l1,γ1,v1,ℓ1,hB,r1,le1,q1⟩:=Zfd hn hX FU h hr (hr.ul _ (Zq he).1).2.2;obtain ⟨⟨k1,st1,L1⟩,he1,hC⟩:=hB;have hkk1:k1=k0:=(Zq he1).2;subst hkk1
     cases L1 with
     | box ty1 c1 =>
      obtain ⟨e0,he0,hce⟩:=le1.l _ _ hk he1;rw [he] at he0;cases he0;have hce:γ1 k1=γ k1:=hce;obtain ⟨es1,E1,f1,_,_,f3,r2⟩:=r1.del he1;obtain ⟨b1,cs1,f4,f5,f6,rfl⟩:=f1;have f4:γ1 k1 = .box b1:=f4;rw [hce,g1] at f4;cases f4;have m0:=(hr.st.loc _ (h3.mem_iff.2 (List.mem_append_left _ (List.mem_singleton.2 rfl)))).1;have m1:=(r1.st.loc _ (f3.mem_iff.2 (List.mem_append_left _ (List.mem_singleton.2 rfl)))).1;have m0:w.heap[b]? = some (.cells cs.toArray ty0 (0,0)):=m0;have m1:w.heap[b]? = some (.cells cs1.toArray ty1 (0,0)):=m1;rw [m0] at m1;have hcs:cs=cs1:=by
       have:=Option.some.inj m1
       injection this with h1 _ _
       have:=congrArg Array.toList h1
       simpa using this
      subst hcs;obtain ⟨v',hv,hs1,hAt⟩:=(r1.st.perm f3).pubVar (i:=0) rfl rfl;have hs1:St N w0 v0 [] E1.flatten v' a w:=hs1;have r3:=r2.go hv hs1;have hrel:=Rep.mono _ hv (q1 _ g3);have r4:=r3.slot (t:=s) (m:=n) (z:=.vp (Zre α m) x1 0) ⟨[_],⟨b,0,cs,hAt,hrel,rfl⟩,hy0⟩ trivial hX;obtain ⟨i0,hi0⟩:∃ i0,C.P.info? e=some i0:=by
       unfold szA at hq;split at hq
       ·rename_i i0 _ hi0 _;exact ⟨i0,hi0⟩
       ·cases hq
      obtain ⟨σ,hσ,e1⟩:=r4.st.ev1 (.tmp s);rw [hy0] at e1;obtain ⟨k4,k5⟩:=ZXs (by omega) hrel;subst ho;refine ZL r4 hU (Zoy hσ hu hi0 e1) hd hX (x:=.data (.slice α) (Zce α m x1)) ⟨[.slice (some ⟨b,0,none⟩) m m],?_,rfl⟩ trivial hC;obtain ⟨c2,T2,fr2,hvb,htk⟩:=hAt;have hlen:=ZIc k4;rw [k5] at hlen;refine ⟨some ⟨b,0,none⟩,m,by rw [show (Zce α m x1).length=m from k5],by rw [show (Zce α m x1).length=m from k5];exact Nat.le_refl _,by unfold maxLen;omega,.inr ⟨b,0,c2,T2,fr2,rfl,hvb,?_⟩⟩;rw [show (Zce α m x1).length=m from k5,← hlen,htk];exact k4
     | own _ _ _ _=>exact hC.elim
     | mat _ _ _ _ _=>exact hC.elim
     | mid _ _ _ _ _ _=>exact hC.elim
    | own _ _ _ _=>exact h.elim
    | mat _ _ _ _ _=>exact h.elim
    | mid _ _ _ _ _ _=>exact h.elim
   ·exact h.elim
  ·exact h.elim
 ·exact h.elim
theorem RelX.dup (h:RelX N G w0 v0 U X f l a w γ v ℓ) {t:Nat} {e:En V} (he:lkE f t=some e):RelX N G w0 v0 U X (e :: f) l a w γ v ℓ:=by
 obtain ⟨hm,hk⟩:=Zq he;have key:∀ t',lkE (e :: f) t'=lkE f t':=fun t'=>by
  rw [ZR];split
  ·rename_i hk';rw [← hk',hk];exact he.symm
  ·rfl
 exact ⟨h.st,fun t' e' he'=>h.fr t' e' (by rw [← key];exact he'),h.lr,h.nd,fun t' e' he'=>h.uf t' e' (by rw [← key];exact he'),h.ul,h.gh⟩
theorem run_mkI {σ:List (Nat×Value)} (hS:St N w0 v0 σ ℓ v a w) {t:TypeId} {x:Operand} {y:Value} {D:TypeDesc} (e:ev σ x=some y) (h:P.underlying t=some D) (hn:∀ q,some D≠some (.interface q)) :
  (execOp a.eval ⟨d,.makeInterface t x,ty,pos,aft,g⟩).run P w = .ok (.value (.iface t y)) w:=by
 have hx:=hS.eval e;have:(Instr.makeInterface t y).run P w = .ok (.iface t y) w:=by
  cases D with
  | interface q=>exact absurd rfl (hn q)
  | _=>simp [Instr.makeInterface,run_underlying h]
 simp [execOp,hx,this]
theorem ZVx {σ:List (Nat×Value)} (hS:St N w0 v0 σ ℓ v a w) {x y z u s t:Operand} {k:IntKind} {p q r p' q' r':Int} {ats:Array TypeId} (e:ev σ x=some (.int k p)) (e':ev σ y=some (.int k q)) (e2:ev σ z=some (.int k r)) (e3:ev σ u=some (.int k p')) (e4:ev σ s=some (.int k q')) (e5:ev σ t=some (.int k r')) :
  (execOp a.eval ⟨d,.call ⟨.builtin .max,#[x,y,z,u,s,t],ats⟩,ty,pos,aft,g⟩).run P w = .ok (.value (.int k (max (max (max (max (max p q) r) p') q') r'))) w:=by
 simp [execOp,resolve,invoke,builtin,Builtin.max_,hS.eval e,hS.eval e',hS.eval e2,hS.eval e3,hS.eval e4,hS.eval e5,Zcm]
theorem Zdl {C:Cf} (hC:CfOK C) (hr:RelX N G w0 v0 U X f l a w γ v ℓ) (hU:∀ k,U k→X k) (hX:X n) (hn:¬ U n) {o:Oper} {Post:Unit→Fr→Lo→Prop} (hd:∀ k,o.dst=some k→k<N) (h:Zk n (ZW C n o) f l Post):Zna C.P N G w0 v0 X o a w Post:=by
 obtain ⟨d,op,ty,pos,aft,g⟩:=o
 cases op with
 | move x =>
  simp only [ZW] at h;obtain ⟨V1,h1,k1,hA⟩:=ZE hr h;obtain ⟨σ,hσ,e1⟩:=hr.st.ev1 x;exact ZL hr hU (ZI hσ e1) hd hX h1 (V.ok.mono hU k1) hA
 | assign x =>
  simp only [ZW] at h;split at h
  ·rename_i hx;have hx:x = .const (.pointer none):=by
    unfold ZSo at hx;split at hx
    ·rfl
    ·cases hx
   subst hx;obtain ⟨h0,hA⟩:=h;have e0:Go.Eng.era (⟨n,n,LV.box 0 .undef⟩ :: l) n=l:=by
    simp only [era];rw [show Nat.beq n n=true from Nat.beq_refl n]
   have hA:Zk n (ret ⟨d,.assign (.const (.pointer none)),ty,pos,aft,g⟩ (.ptr n 0)) f (Go.Eng.era (⟨n,n,LV.box 0 .undef⟩ :: l) n) Post:=hA;rw [e0] at hA;obtain ⟨σ,hσ,e1⟩:=hr.st.ev1 (.const (.pointer none));exact ZL hr hU (Zed hσ e1) hd hX (x:=.ptr n 0) ⟨[.pointer none],⟨_,rfl,rfl,fun e he=>by rw [h0] at he;cases he⟩,rfl⟩ hX hA
  ·obtain ⟨V1,h1,k1,hA⟩:=ZE hr h;obtain ⟨σ,hσ,e1⟩:=hr.st.ev1 x;exact ZL hr hU (Zed hσ e1) hd hX h1 (V.ok.mono hU k1) hA
 | nilCheck x =>
  simp only [ZW] at h;obtain ⟨V1,h1,k1,hA⟩:=ZE hr h;split at hA
  ·rename_i α y;obtain ⟨cs,hcs,e0⟩:=h1;obtain ⟨b,o',c,rfl,hat,hrel⟩:=(show (rPtr α.rep).rel v cs y from hcs);obtain ⟨σ,hσ,e1⟩:=hr.st.ev1 x;rw [e0] at e1;have e1:ev σ x=some (.pointer (some ⟨b,o',none⟩)):=e1;have hrun:(execOp a.eval ⟨d,.nilCheck x,ty,pos,aft,g⟩).run C.P w = .ok (.value (.pointer (some ⟨b,o',none⟩))) w:=by simp [execOp,hσ.eval e1]
   exact ZL hr hU hrun hd hX (x:=.vp α y 0) ⟨[_],⟨b,o',c,hat,hrel,rfl⟩,rfl⟩ trivial hA
  obtain ⟨hB,b,o',e',_⟩:=Z3k h1 k1 hA;obtain ⟨σ,hσ,e1⟩:=hr.st.ev1 x;rw [e'] at e1 h1;have hrun:(execOp a.eval ⟨d,.nilCheck x,ty,pos,aft,g⟩).run C.P w = .ok (.value (.pointer (some ⟨b,o',none⟩))) w:=by simp [execOp,hσ.eval e1]
  exact ZL hr hU hrun hd hX h1 (V.ok.mono hU k1) hB
 | extract x i =>
  simp only [ZW] at h;obtain ⟨V1,h1,k1,hA⟩:=ZE hr h;split at hA
  ·rename_i c;split at hA
   ·rename_i z hz;obtain ⟨vals,h2,h3⟩:=h1;obtain ⟨y,q1,q2,q3⟩:=Z1q hz h2 k1;obtain ⟨σ,hσ,e1⟩:=hr.st.ev1 x;rw [h3] at e1;exact ZL hr hU (Zva hσ e1 (by simpa using q1)) hd hX q2 (V.ok.mono hU q3) hA
   ·exact hA.elim
  ·exact hA.elim
 | alloc t =>
  simp only [ZW] at h;split at h
  ·rename_i z hz;obtain ⟨y,cs,hy,hcells,hzz,hkz,hp⟩:=Zwn (v:=v) (γ:=γ) (l:=l) (U:=U) hz;refine Z5p hr hU hX hn hd hzz hkz hp ?_ h;have:=ZXm (a:=a) (w:=w) (d:=d) (ty:=ty) (pos:=pos) (aft:=aft) (g:=g) hy;rw [hcells] at this;exact this
  ·exact h.elim
 | box t x =>
  simp only [ZW] at h;obtain ⟨V1,h1,k1,hA⟩:=ZE hr h;split at hA
  ·rename_i hfit;obtain ⟨cs,hcs,hqe⟩:=Zub h1 (Zgn hfit);obtain ⟨hcells,hpl⟩:=Zbk hcs hfit;obtain ⟨σ,hσ,e1⟩:=hr.st.ev1 x;rw [hqe] at e1;refine Z5p hr hU hX hn hd hcs k1 hpl ?_ hA;have:=ZSn (t:=t) (d:=d) (ty:=ty) (pos:=pos) (aft:=aft) (g:=g) (P:=C.P) hσ e1;rw [show (V1.val cs).cells=cs.toArray from hcells] at this;exact this
  ·exact hA.elim
 | load t x =>
  simp only [ZW] at h;obtain ⟨V1,h1,k1,hA⟩:=ZE hr h;split at hA
  ·exact Zbx hr hU hX hn rfl hd h1 hA
  obtain ⟨z,y,q1,q2,q3,hB⟩:=ldE_ok (d:=d) (ty:=ty) (pos:=pos) (aft:=aft) (g:=g) hr h1 k1 hA;exact ZL hr hU q1 hd hX q2 (V.ok.mono hU q3) hB
 | store t x y =>
  simp only [ZW] at h
  cases d with
  | some d=>exact h.elim
  | none =>
   obtain ⟨V1,h1,k1,hA⟩:=ZE hr h;obtain ⟨V2,h2,k2,hB⟩:=ZE hr hA;exact stE_ok hr hU hX hn rfl h1 h2 k1 k2 hB
 | fieldAddr s x i =>
  simp only [ZW] at h;obtain ⟨V1,h1,k1,hA⟩:=ZE hr h;obtain ⟨z,y,q1,q2,q3,hB⟩:=fldE_ok (d:=d) (ty:=ty) (pos:=pos) (aft:=aft) (g:=g) hr h1 k1 hA;exact ZL hr hU q1 hd hX q2 (V.ok.mono hU q3) hB
 | field s x i =>
  simp only [ZW] at h;obtain ⟨V1,h1,k1,hA⟩:=ZE hr h;split at hA
  ·rename_i fd hfd hag;split at hA
   ·rename_i q hq;split at hA
    ·rename_i z hz;obtain ⟨cs,hcs,hqe⟩:=Zub h1 (fun c e=>by subst e;cases hag);obtain ⟨q1,q2,q3⟩:=Zxp hq hz hcs k1 w;obtain ⟨σ,hσ,e1⟩:=hr.st.ev1 x;have hv:V1.val cs = .agg cs.toArray:=by unfold V.val;rw [hag]
     rw [hqe,hv] at e1;refine ZL hr hU (Z7v hσ e1 ?_) hd hX (Z0b q2 (fun c e=>by subst e;exact q2)) (V.ok.mono hU q3) hA;unfold fldT at hfd;split at hfd
     ·rename_i fs hfs;have hfd':fs[i]? = some fd:=by rw [← Array.getElem?_toList];exact hfd
      simp [Instr.field,run_underlying hfs,hfd',asAgg,q1]
     ·cases hfd
    ·exact hA.elim
   ·exact hA.elim
  ·exact hA.elim
 | indexAddr t x i =>
  simp only [ZW] at h;obtain ⟨V1,h1,k1,hA⟩:=ZE hr h;obtain ⟨V2,h2,k2,hB⟩:=ZE hr hA;obtain ⟨κ,j,rfl,hC'⟩:=Z5a hB;split at hC'
  ·unfold altE at hC';split at hC'
   ·exact alts_ok hr hU hX rfl hd h1 k1 (Zya h2).1 hC'
   ·exact hC'.elim
  ·exact ixE_ok hr hU hX rfl hd h1 k1 (Zya h2).1 hC'
 | index t x i =>
  simp only [ZW] at h;obtain ⟨V1,h1,k1,hA⟩:=ZE hr h;obtain ⟨V2,h2,k2,hB⟩:=ZE hr hA;obtain ⟨κ,j,rfl,hC'⟩:=Z5a hB;obtain ⟨e2,_⟩:=Zya h2;obtain ⟨σ,hσ,ev1,ev2⟩:=hr.st.ev2 x i;rw [e2] at ev2;split at hC'
  ·obtain ⟨e1,_⟩:=Zng h1;rw [e1] at ev1;split at hC'
   ·rename_i ht;obtain ⟨y,hy,hC'⟩:=hC';exact ZL hr hU (ZDw hσ ev1 ev2 ht hy) hd hX (Zwa (u8_inR y)) trivial hC'
   ·exact hC'.elim
  ·split at hC'
   ·rename_i m e ht;split at hC'
    ·rename_i q hq hag b0 b1;have b0:(0:Int)≤j:=by simpa using b0
     have b1:@LT.lt Int _ j (m:Int):=by simpa using b1
     split at hC'
     ·rename_i z hz;obtain ⟨cs,hcs,hqe⟩:=Zub h1 (fun c e=>by subst e;cases hag);obtain ⟨q1,q2,q3⟩:=Zxp hq hz hcs k1 w;have hv:V1.val cs = .agg cs.toArray:=by unfold V.val;rw [hag]
      rw [hqe,hv] at ev1;refine ZL hr hU (Z7u hσ ev1 ev2 ?_) hd hX (Z0b q2 (fun c e=>by subst e;exact q2)) (V.ok.mono hU q3) hC';simp [Instr.index,asIntOf,run_underlying ht,b0,b1,(Zbf hq).size,q1]
     ·exact hC'.elim
    ·exact hC'.elim
   ·exact hC'.elim
 | binOp op t x y t' =>
  simp only [ZW] at h;obtain ⟨V1,h1,k1,hA⟩:=ZE hr h;obtain ⟨V2,h2,k2,hB⟩:=ZE hr hA;obtain ⟨z,q,q1,q2,q3,hC'⟩:=binE_ok (d:=d) (ty:=ty) (pos:=pos) (aft:=aft) (g:=g) (t':=t') hr h1 h2 hB;exact ZL hr hU q1 hd hX q2 (V.ok.mono hU q3) hC'
 | unOp u t x =>
  cases u with
  | not =>
   simp only [ZW] at h;obtain ⟨V1,h1,k1,hA⟩:=ZE hr h;obtain ⟨b,rfl,hB⟩:=ZSv hA;obtain ⟨σ,hσ,e1⟩:=hr.st.ev1 x;rw [Z3e h1] at e1;exact ZL hr hU (ZYr hσ e1) hd hX Zyc trivial hB
  | neg =>
   simp only [ZW] at h;obtain ⟨V1,h1,k1,hA⟩:=ZE hr h;obtain ⟨κ,i,rfl,hB⟩:=Z5a hA;obtain ⟨σ,hσ,e1⟩:=hr.st.ev1 x;rw [(Zya h1).1] at e1;exact ZL hr hU (run_neg hσ e1) hd hX (Zwa (ZPb _ _)) trivial hB
  | _=>exact h.elim
 | convert s t x =>
  simp only [ZW] at h;obtain ⟨V1,h1,k1,hA⟩:=ZE hr h;obtain ⟨σ,hσ,e1⟩:=hr.st.ev1 x;split at hA
  ·rename_i κ i ds κ' hs ht;obtain ⟨q1,q2⟩:=Zya h1;rw [q1] at e1;have hcv:∀ w,(convert s t (.int κ i)).run C.P w = .ok (.int κ' (κ'.wrap i)) w:=fun w=>by
    simp [convert,run_underlying hs,run_underlying ht,Conv.intToInt]
   split at hA
   ·rename_i hk;have hk:=Z7b hk;subst hk;refine ZL hr hU (Z7e hσ e1 hcv) hd hX (x:=.data (.int κ) i) ?_ trivial hA;rw [Z1d q2];exact Zwa q2
   ·exact ZL hr hU (Z7e hσ e1 hcv) hd hX (Zwa (ZPb _ _)) trivial hA
  ·rename_i hs ht;obtain ⟨q1,q2⟩:=Zng h1;rw [q1] at e1;exact ZL hr hU (Z7e hσ e1 (fun w=>by simp [convert,run_underlying hs,run_underlying ht])) hd hX (Z4j q2) trivial hA
  ·exact hA.elim
 | makeInterface t x =>
  simp only [ZW] at h;obtain ⟨V1,h1,k1,hA⟩:=ZE hr h;split at hA
  ·rename_i hfit;split at hA
   ·exact hA.elim
   ·rename_i D hni hD;obtain ⟨cs,hcs,hqe⟩:=Zub h1 (Zgn hfit);obtain ⟨σ,hσ,e1⟩:=hr.st.ev1 x;rw [hqe] at e1;refine ZL hr hU (run_mkI hσ e1 hD fun q e=>hni q (Option.some.inj e)) hd hX (x:=.ifc t V1) ⟨[_],⟨cs,hcs,rfl⟩,rfl⟩ (V.ok.mono hU k1) hA
   ·exact hA.elim
  ·exact hA.elim
 | makeFunc fn first cap =>
  cases fn with
  | func fi =>
   simp only [ZW] at h;split at h
   ·rename_i hfirst;obtain ⟨c,h1,k1,hA⟩:=Znf hr h;obtain ⟨σ,hσ,hev⟩:=hr.st.evs cap.toList;have hargs:cap.toList.map (ev σ)=(cap.toList.map a.eval).map some:=by
     rw [List.map_map];exact List.map_congr_left fun y hy=>hev y hy
    have hf:first = #[]:=by
     apply Array.ext';simpa using hfirst
    subst hf;exact ZL hr hU (ZIx hσ _ hargs) hd hX (x:=.fn fi c) ⟨[_],⟨_,h1,rfl⟩,rfl⟩ (V.ok.mono hU k1) hA
   ·exact h.elim
  | _=>exact h.elim
 | makeSlice t x y=>exact ZOx hr hU hX hn rfl hd h
 | buildSlice t m ps=>exact Zgv hr hU hX hn rfl hd h
 | build t ps=>exact ZLu hr hU hX rfl hd h
 | slice t x lo hi mx =>
  cases mx with
  | some _=>exact h.elim
  | none =>
   simp only [ZW] at h;obtain ⟨i,hA,hlo⟩:=Zbt hr h;obtain ⟨j,hB,hhi⟩:=Zbt hr hA;obtain ⟨V1,h1,k1,hC'⟩:=ZE hr hB;split at hC'
   ·rename_i u;obtain ⟨en,he,hC'⟩:=hC';obtain ⟨kk,st,L⟩:=en
    cases L with
    | own ty0 s xs fz =>
     obtain ⟨ys,l1,γ1,v1,ℓ1,hD,r1,le1,q1⟩:=Zfd hn hX FU hC' hr k1;obtain ⟨cs,hcs,hqe⟩:=Zub h1 (fun c e=>by cases e);have hrel:=q1 _ hcs;exact Znj (p:=.data (.slice s) ys) r1 hU hX rfl hd ⟨cs,hrel,hqe⟩ hlo hhi hD
    | box _ _=>exact hC'.elim
    | mid _ _ _ _ _ _=>exact hC'.elim
    | mat _ _ _ _ _=>exact hC'.elim
   ·obtain ⟨cs,hcs,hqe⟩:=ZHg h1;exact Znj (p:=.data (.slice (.int .u64)) (Zc 18446744073709551616 _)) hr hU hX rfl hd ⟨cs,hcs,hqe⟩ hlo hhi hC'
   ·obtain ⟨cs,hcs,hqe⟩:=ZHg h1;exact Znj (p:=.data (.slice (.int .u32)) (Zc 4294967296 _)) hr hU hX rfl hd ⟨cs,hcs,hqe⟩ hlo hhi hC'
   ·split at hC'
    ·exact arrE_ok hr hU hX hn rfl hd h1 k1 hlo hhi hC'
    ·exact hC'.elim
   ·exact Znj hr hU hX rfl hd h1 hlo hhi hC'
 | pick c x y =>
  cases c with
  | tmp c =>
   simp only [ZW] at h;obtain ⟨s,b,hf,h1,h2⟩:=h;have hr':=RelX.dup hr hf;have hc:=Z3e (hr.fr c _ hf);obtain ⟨σ,hσ,hev⟩:=hr.st.evs [.tmp c,x,y];have e0:=hev (.tmp c) (by simp);have e0:ev σ (.tmp c)=some (.bool b):=e0.trans (congrArg some hc);have ex:=hev x (by simp);have ey:=hev y (by simp)
   cases b with
   | true =>
    obtain ⟨V1,q1,k1,hA⟩:=ZE hr' (h1 rfl);exact ZL hr' hU (Z0e hσ e0 (by rw [if_pos rfl];exact ex)) hd hX q1 (V.ok.mono hU k1) hA
   | false =>
    obtain ⟨V1,q1,k1,hA⟩:=ZE hr' (h2 rfl);exact ZL hr' hU (Z0e hσ e0 (by rw [if_neg (by decide)];exact ey)) hd hX q1 (V.ok.mono hU k1) hA
  | _=>exact h.elim
 | call c =>
  obtain ⟨callee,args,ats⟩:=c
  cases callee with
  | value x =>
   simp only [ZW] at h;obtain ⟨V1,h1,k1,hA⟩:=ZE hr h;obtain ⟨c,h2,k2,hB⟩:=Znf hr hA;split at hB
   ·rename_i fi;obtain ⟨cs,⟨vs,q1,rfl⟩,q3⟩:=h1;have q1:vs=[]:=q1;subst q1;have q3:a.eval x = .func (.func fi) #[] #[]:=q3;obtain ⟨σ,hσ,hev⟩:=hr.st.evs (x :: args.toList);have hfx:=hev x (by simp);rw [q3] at hfx;have hargs:args.toList.map (ev σ)=(args.toList.map a.eval).map some:=by
     rw [List.map_map];exact List.map_congr_left fun y hy=>hev y (by simp [hy])
    exact ZKo hC hr hU hX hn hd (fun hen=>Zpa hσ _ hen hfx hargs) (fun y hv=>ZDj hσ _ hv hfx hargs) h2 k2 hB
   ·exact hB.elim
  | invoke r m =>
   simp only [ZW] at h;obtain ⟨V1,h1,k1,hA⟩:=ZE hr h;obtain ⟨c,h2,k2,hB⟩:=Znf hr hA;split at hB
   ·rename_i t x;split at hB
    ·rename_i fi hfi;obtain ⟨cs,⟨cc,q1,rfl⟩,q3⟩:=h1;have q3:a.eval r = .iface t (x.val cc):=q3;obtain ⟨σ,hσ,hev⟩:=hr.st.evs (r :: args.toList);have hfx:=hev r (by simp);rw [q3] at hfx;have hargs:args.toList.map (ev σ)=(args.toList.map a.eval).map some:=by
      rw [List.map_map];exact List.map_congr_left fun y hy=>hev y (by simp [hy])
     exact ZKo hC hr hU hX hn (c:=.cons x c) (vals:=x.val cc :: args.toList.map a.eval) hd (fun hen=>Zcr hσ _ (fun w=>hC.m t m fi hfi _ w) hfx hargs (hen _ w)) (fun y hv=>Zcr hσ _ (fun w=>hC.m t m fi hfi _ w) hfx hargs (by
      have:=hv w;exact this)) ⟨cc,_,rfl,q1,h2⟩ ⟨k1,k2⟩ hB
    ·exact hB.elim
   ·exact hB.elim
  | builtin b =>
   cases b with
   | len =>
    simp only [ZW] at h;split at h
    ·rename_i x t hx ht;have hx:args = #[x]:=by apply Array.ext';exact hx
     have ht:ats = #[t]:=by apply Array.ext';exact ht
     subst hx ht;obtain ⟨V1,h1,k1,hA⟩:=ZE hr h;obtain ⟨m,q1,q2,hB⟩:=lenE_ok (d:=d) (ty:=ty) (pos:=pos) (aft:=aft) (g:=g) hr h1 hA;exact ZL hr hU q1 hd hX (Zwa q2) trivial hB
    ·exact h.elim
   | append =>
    simp only [ZW] at h;split at h
    ·rename_i x y t t' hx ht;split at h
     ·rename_i hb;have hb:=Nat.eq_of_beq_eq_true hb;subst hb;have hx:args = #[x,y]:=by apply Array.ext';exact hx
      have ht:ats = #[t,t]:=by apply Array.ext';exact ht
      subst hx ht;obtain ⟨V1,h1,k1,hA⟩:=ZE hr h;obtain ⟨V2,h2,k2,hB⟩:=ZE hr hA;exact appE_ok hr hU hX hn rfl hd h1 h2 k1 k2 hB
     ·exact h.elim
    ·exact h.elim
   | max =>
    simp only [ZW] at h;split at h
    ·rename_i x y hx;have hx:args = #[x,y]:=by apply Array.ext';exact hx
     subst hx;obtain ⟨V1,h1,k1,hA⟩:=ZE hr h;obtain ⟨V2,h2,k2,hB⟩:=ZE hr hA;obtain ⟨κ,i,rfl,hC'⟩:=Z5a hB;obtain ⟨κ',j,rfl,hD⟩:=Z5a hC';split at hD
     ·rename_i hk;have hk:=Z7b hk;subst hk;obtain ⟨e1,r1⟩:=Zya h1;obtain ⟨e2,r2⟩:=Zya h2;obtain ⟨σ,hσ,ev1,ev2⟩:=hr.st.ev2 x y;rw [e1] at ev1;rw [e2] at ev2;exact ZL hr hU (run_max hσ ev1 ev2) hd hX (Zwa (ZEe r1 r2)) trivial hD
     ·exact hD.elim
    ·rename_i x y z hx;have hx:args = #[x,y,z]:=by apply Array.ext';exact hx
     subst hx;obtain ⟨V1,h1,k1,hA⟩:=ZE hr h;obtain ⟨V2,h2,k2,hB⟩:=ZE hr hA;obtain ⟨V3,h3,k3,hB'⟩:=ZE hr hB;obtain ⟨κ,i,rfl,hC'⟩:=Z5a hB';obtain ⟨κ',j,rfl,hD⟩:=Z5a hC';obtain ⟨κ'',q,rfl,hE⟩:=Z5a hD;split at hE
     ·rename_i hk hk2;have hk:=Z7b hk;subst hk;have hk2:=Z7b hk2;subst hk2;obtain ⟨e1,r1⟩:=Zya h1;obtain ⟨e2,r2⟩:=Zya h2;obtain ⟨e3,r3⟩:=Zya h3;obtain ⟨σ,hσ,ev1,ev2,ev3⟩:=hr.st.ev3 x y z;rw [e1] at ev1;rw [e2] at ev2;rw [e3] at ev3;exact ZL hr hU (Zdy hσ ev1 ev2 ev3) hd hX (Zwa (ZEe (ZEe r1 r2) r3)) trivial hE
     ·exact hE.elim
    ·rename_i x1 x2 x3 x4 x5 x6 hx;have hx:args = #[x1,x2,x3,x4,x5,x6]:=by apply Array.ext';exact hx
     subst hx;obtain ⟨V1,h1,k1,hA⟩:=ZE hr h;obtain ⟨V2,h2,k2,hA⟩:=ZE hr hA;obtain ⟨V3,h3,k3,hA⟩:=ZE hr hA;obtain ⟨V4,h4,k4,hA⟩:=ZE hr hA;obtain ⟨V5,h5,k5,hA⟩:=ZE hr hA;obtain ⟨V6,h6,k6,hA⟩:=ZE hr hA;obtain ⟨κ,i1,rfl,hB1⟩:=Z5a hA;obtain ⟨κ2,i2,rfl,hB2⟩:=Z5a hB1;obtain ⟨κ3,i3,rfl,hB3⟩:=Z5a hB2;obtain ⟨κ4,i4,rfl,hB4⟩:=Z5a hB3;obtain ⟨κ5,i5,rfl,hB5⟩:=Z5a hB4;obtain ⟨κ6,i6,rfl,hB6⟩:=Z5a hB5;split at hB6
     ·have g2:=Z7b (show kEq κ κ2=true by assumption)
      cases g2
      have g3:=Z7b (show kEq κ κ3=true by assumption)
      cases g3
      have g4:=Z7b (show kEq κ κ4=true by assumption)
      cases g4
      have g5:=Z7b (show kEq κ κ5=true by assumption)
      cases g5
      have g6:=Z7b (show kEq κ κ6=true by assumption)
      cases g6
      obtain ⟨e1,r1⟩:=Zya h1;obtain ⟨e2,r2⟩:=Zya h2;obtain ⟨e3,r3⟩:=Zya h3;obtain ⟨e4,r4⟩:=Zya h4;obtain ⟨e5,r5⟩:=Zya h5;obtain ⟨e6,r6⟩:=Zya h6;obtain ⟨σ,hσ,ev1,ev2,ev3,ev4,ev5,ev6⟩:=hr.st.ev6 x1 x2 x3 x4 x5 x6;rw [e1] at ev1;rw [e2] at ev2;rw [e3] at ev3;rw [e4] at ev4;rw [e5] at ev5;rw [e6] at ev6;exact ZL hr hU (ZVx hσ ev1 ev2 ev3 ev4 ev5 ev6) hd hX (Zwa (ZEe (ZEe (ZEe (ZEe (ZEe r1 r2) r3) r4) r5) r6)) trivial hB6
     ·exact hB6.elim
    ·exact h.elim
   | min =>
    simp only [ZW] at h;split at h
    ·rename_i x y hx;have hx:args = #[x,y]:=by apply Array.ext';exact hx
     subst hx;obtain ⟨V1,h1,k1,hA⟩:=ZE hr h;obtain ⟨V2,h2,k2,hB⟩:=ZE hr hA;obtain ⟨κ,i,rfl,hC'⟩:=Z5a hB;obtain ⟨κ',j,rfl,hD⟩:=Z5a hC';split at hD
     ·rename_i hk;have hk:=Z7b hk;subst hk;obtain ⟨e1,r1⟩:=Zya h1;obtain ⟨e2,r2⟩:=Zya h2;obtain ⟨σ,hσ,ev1,ev2⟩:=hr.st.ev2 x y;rw [e1] at ev1;rw [e2] at ev2;exact ZL hr hU (run_min hσ ev1 ev2) hd hX (Zwa (min_inR r1 r2)) trivial hD
     ·exact hD.elim
    ·exact h.elim
   | _=>exact h.elim
 | _=>exact h.elim
end
end Go.Eng
namespace Go.Eng
open Go.RowKit
def Old (m:Nat) (f:Fr) (l:Lo) (f':Fr) (l':Lo):Prop:=(∀ t e,lkE f' t=some e→e.st<m→lkE f t=some e)∧∀ u e,lkE l' u=some e→e.st<m→lkE l u=some e
theorem Old.refl {m:Nat} {f:Fr} {l:Lo}:Old m f l f l:=⟨fun _ _ h _=>h,fun _ _ h _=>h⟩
theorem Old.trans {m m':Nat} {f f' f'':Fr} {l l' l'':Lo} (h:Old m f l f' l') (k:Old m' f' l' f'' l'') (hm:m≤m'):Old m f l f'' l'' :=
 ⟨fun t e he hs=>h.1 t e (k.1 t e he (by omega)) hs,fun t e he hs=>h.2 t e (k.2 t e he (by omega)) hs⟩
theorem Old.mono {m m':Nat} {f f':Fr} {l l':Lo} (h:Old m' f l f' l') (hm:m≤m'):Old m f l f' l':=⟨fun t e he hs=>h.1 t e he (by omega),fun t e he hs=>h.2 t e he (by omega)⟩
theorem Old.put {m n:Nat} {f:Fr} {l:Lo} {d:Nat} {x:V} (h:m≤n):Old m f l (⟨d,n,x⟩ :: f) l:=by
 refine ⟨fun t e he hs=>?_,fun _ _ h _=>h⟩;rw [ZR] at he;split at he
 ·cases he;exact absurd hs (by show ¬ n<m;omega)
 ·exact he
theorem Old.dup {m:Nat} {f:Fr} {l:Lo} {t:Nat} {e:En V} (h:lkE f t=some e):Old m f l (e :: f) l:=by
 obtain ⟨_,hk⟩:=Zq h;refine ⟨fun t' e' he _=>?_,fun _ _ h _=>h⟩;rw [ZR] at he;split at he
 ·rename_i hk';cases he;rw [← hk',hk];exact h
 ·exact he
theorem Zth {ρ:Type} {n m:Nat} (hm:m≤n) {f0:Fr} {l0:Lo}:∀ {e:Ev ρ} {f:Fr} {l:Lo} {K:ρ→Fr→Lo→Prop},Old m f0 l0 f l→(l.map En.k).Nodup→Zk n e f l K→Zk n e f l fun x f' l'=>K x f' l'∧Old m f0 l0 f' l':=by
 intro e;have wr:∀ {f:Fr} {l:Lo} {u:Nat} {L:LV},Old m f0 l0 f l→(l.map En.k).Nodup→Old m f0 l0 f (⟨u,n,L⟩ :: era l u)∧((⟨u,n,L⟩ :: era l u:Lo).map En.k).Nodup:=by
  intro f l u L ho hn;obtain ⟨n1,n2⟩:=Zxb (t:=u) hn;refine ⟨⟨ho.1,fun k e he hs=>?_⟩,List.nodup_cons.2 ⟨n2,n1⟩⟩;rw [ZR] at he;split at he
  ·cases he;exact absurd hs (by show ¬ n<m;omega)
  ·rw [ZUb hn] at he;split at he
   ·cases he
   ·exact ho.2 k e he hs
 induction e with
 | fail=>intro f l K ho hn h;exact h
 | done x=>intro f l K ho hn h;exact ⟨h,ho⟩
 | rdS t q ih=>intro f l K ho hn h;obtain ⟨x,hx,h⟩:=h;exact ⟨x,hx,ih _ ho hn h⟩
 | rdL u q ih=>intro f l K ho hn h;obtain ⟨x,hx,h⟩:=h;exact ⟨x,hx,ih _ _ ho hn h⟩
 | wrS t x e ih=>intro f l K ho hn h;exact ih (ho.trans (Old.put hm) (Nat.le_refl m)) hn h
 | wrL u L e ih=>intro f l K ho hn h;exact ih (wr ho hn).1 (wr ho hn).2 h
 | new u L e ih =>
  intro f l K ho hn h;refine ⟨h.1,ih ⟨ho.1,fun k e he hs=>?_⟩ (List.nodup_cons.2 ⟨Zmg h.1,hn⟩) h.2⟩;rw [ZR] at he;split at he
  ·cases he;exact absurd hs (by show ¬ n<m;omega)
  ·exact ho.2 k e he hs
 | del u e ih =>
  intro f l K ho hn h;refine ih ⟨ho.1,fun k e he hs=>?_⟩ (Zxb hn).1 h;rw [ZUb hn] at he;split at he
  ·cases he
  ·exact ho.2 k e he hs
 | bind x q ih=>intro f l K ho hn h;obtain ⟨x,hx,h⟩:=h;exact ⟨x,hx,ih _ ho hn h⟩
 | test t e1 e2 i1 i2 =>
  intro f l K ho hn h;obtain ⟨s,b,h1,h2,h3⟩:=h;have hd:=ho.trans (Old.dup (m:=m) (l:=l) h1) (Nat.le_refl m);exact ⟨s,b,h1,fun e=>i1 hd hn (h2 e),fun e=>i2 hd hn (h3 e)⟩
 | alt b e1 e2 i1 i2=>intro f l K ho hn h;exact ⟨fun e=>i1 ho hn (h.1 e),fun e=>i2 ho hn (h.2 e)⟩
section
variable {N:Nat} {G:V→Value→Prop} {w0:Base} {v0:Zb} {U X:Nat→Prop} {f:Fr} {l:Lo} {a:Act} {w:World} {γ:Nat→Gh} {v:Zb} {ℓ:List Loc} {n:Nat}
def GoodG (P:Program) (ops:Array Oper) (N:Nat) (G:V→Value→Prop) (w0:Base) (v0:Zb) (X:Nat→Prop) (o:Oper) (a:Act) (w:World) (Post:Unit→Fr→Lo→Prop):Prop :=
 (Region.wanted o (yielded ops a.tmps)=true∧Zna P N G w0 v0 X o a w Post)∨(Region.wanted o (yielded ops a.tmps)=false∧∃ f' l',Post () f' l'∧Rel N G w0 v0 X f' l' (a.put o.dst undef) w)
theorem Z8i (hr:RelX N G w0 v0 U X f l a w γ v ℓ) (hU:∀ k,U k→X k) (hX:X n) {o:Oper} {Post:Unit→Fr→Lo→Prop} (hd:∀ k,o.dst=some k→k<N) (h:Zk n (Zgg o) f l Post):∃ f' l',Post () f' l'∧Rel N G w0 v0 X f' l' (a.put o.dst undef) w:=by
 unfold Zgg at h
 cases hdd:o.dst with
 | none=>rw [hdd] at h;exact ⟨f,l,h,γ,v,ℓ,hr.mono hU fun _ h=>h⟩
 | some d=>rw [hdd] at h;exact ⟨_,l,h,γ,v,ℓ,(hr.mono hU fun _ h=>h).put (hd d hdd) (x:=.undef) ⟨[undef],rfl,rfl⟩ trivial hX⟩
theorem Z1k {C:Cf} (hC:CfOK C) {ops:Array Oper} (hr:RelX N G w0 v0 U X f l a w γ v ℓ) (hU:∀ k,U k→X k) (hX:X n) (hn:¬ U n) {o:Oper} {Post:Unit→Fr→Lo→Prop} (hds:∀ o ∈ ops.toList,∀ k,o.dst=some k→k<N) (hd:∀ k,o.dst=some k→k<N)
  (h:Zk n (gop C ops.toList n o) f l Post):GoodG C.P ops N G w0 v0 X o a w Post:=by
 unfold gop at h;split at h
 ·rename_i hg;exact .inl ⟨ZVb hg,Zdl hC hr hU hX hn hd h⟩
 ·rename_i j want hg;split at h
  ·rename_i q hq;split at h
   ·rename_i t ht;have htN:t<N:=hds q (List.mem_of_getElem? hq) t ht;have hgd:(ops[j]?).bind (·.dst)=some t:=by rw [← Array.getElem?_toList,hq];exact ht
    obtain ⟨e,he,h⟩:=h;obtain ⟨σ,hσ,hev⟩:=hr.st.evs [.tmp t];have hl:look σ t=some (a.tmps.getD t undef):=hev (.tmp t) (by simp);have hrv:=hr.fr t e he;obtain ⟨ek,est,ex⟩:=e;have hk:ek=t:=(Zq he).2;subst hk
    cases ex with
    | undef =>
     obtain ⟨cs,h1,h2⟩:=hrv;have h1:cs=[undef]:=h1;subst h1;have h2:a.tmps.getD ek undef=undef:=h2;rw [h2] at hl;exact .inr ⟨ZXd hσ hg hgd hl htN,Z8i hr hU hX hd h⟩
    | data tt b =>
     cases tt with
     | bool =>
      have h2:=Z3e hrv;have h2:a.tmps.getD ek undef = .bool b:=h2;rw [h2] at hl
      cases want with
      | true =>
       obtain ⟨s,b',h3,h4,h5⟩:=h;rw [he] at h3
       cases h3
       cases b with
       | true=>exact .inl ⟨Z4e hσ hg hgd hl htN,Zdl hC (RelX.dup hr he) hU hX hn hd (h4 rfl)⟩
       | false=>exact .inr ⟨Zfh hσ hg hgd hl htN,Z8i (RelX.dup hr he) hU hX hd (h5 rfl)⟩
      | false =>
       obtain ⟨s,b',h3,h4,h5⟩:=h;rw [he] at h3
       cases h3
       cases b with
       | true=>exact .inr ⟨Zfh hσ hg hgd hl htN,Z8i (RelX.dup hr he) hU hX hd (h4 rfl)⟩
       | false=>exact .inl ⟨Z4e hσ hg hgd hl htN,Zdl hC (RelX.dup hr he) hU hX hn hd (h5 rfl)⟩
     | _=>exact h.elim
    | _=>exact h.elim
   ·exact h.elim
  ·exact h.elim
theorem GoodG.list {P:Program} {ops:Array Oper} {Q:Exit→Act→World→Prop} {o:Oper} {rest:List Oper} {Post:Unit→Fr→Lo→Prop} (h:GoodG P ops N G w0 v0 X o a w Post)
  (k:∀ f' l' a' w',Post () f' l'→Rel N G w0 v0 X f' l' a' w'→wpList P ops Q rest a' w'):wpList P ops Q (o :: rest) a w:=by
 rcases h with ⟨hw,hg⟩ | ⟨hw,f',l',h1,h2⟩
 ·exact Znc hw (ZEl hg fun x w' ⟨f',l',h1,h2⟩=>k f' l' _ w' h1 h2)
 ·unfold wpList;rw [if_neg (by rw [hw];decide)];exact k f' l' _ w h1 h2
end
end Go.Eng
namespace Go.Eng
open Go.RowKit
inductive Et where
 | rS (t:Nat) (e:En V)
 | rL (u:Nat) (e:En LV)
 | wS (e:En V)
 | dup (e:En V)
 | wL (e:En LV)
 | nL (e:En LV)
 | dL (u:Nat)
def okT:List Et→Fr→Lo→Prop
 | [],_,_=>True
 | .rS t e :: τ,f,l=>lkE f t=some e∧okT τ f l
 | .rL u e :: τ,f,l=>lkE l u=some e∧okT τ f l
 | .wS e :: τ,f,l=>okT τ (e :: f) l
 | .dup e :: τ,f,l=>lkE f e.k=some e∧okT τ (e :: f) l
 | .wL e :: τ,f,l=>okT τ f (e :: era l e.k)
 | .nL e :: τ,f,l=>lkE l e.k=none∧okT τ f (e :: l)
 | .dL u :: τ,f,l=>okT τ f (era l u)
def ZSb:List Et→Fr→Fr
 | [],f=>f
 | .wS e :: τ,f=>ZSb τ (e :: f)
 | .dup e :: τ,f=>ZSb τ (e :: f)
 | _ :: τ,f=>ZSb τ f
def ZWb:List Et→Lo→Lo
 | [],l=>l
 | .wL e :: τ,l=>ZWb τ (e :: era l e.k)
 | .nL e :: τ,l=>ZWb τ (e :: l)
 | .dL u :: τ,l=>ZWb τ (era l u)
 | _ :: τ,l=>ZWb τ l
def rdS:List Et→Nat→Prop
 | [],_=>False
 | .rS t _ :: τ,k=>k=t∨rdS τ k
 | .dup e :: τ,k=>k=e.k∨rdS τ k
 | _ :: τ,k=>rdS τ k
def rdL:List Et→Nat→Prop
 | [],_=>False
 | .rL u _ :: τ,k=>k=u∨rdL τ k
 | .nL e :: τ,k=>k=e.k∨rdL τ k
 | _ :: τ,k=>rdL τ k
def Z2a:List Et→Nat→Option (Option (En V))
 | [],_=>none
 | .wS e :: τ,t=>match Z2a τ t with
  | some z=>some z
  | none=>if e.k=t then some (some e) else none
 | _ :: τ,t=>Z2a τ t
def Zka:List Et→Nat→Option (Option (En LV))
 | [],_=>none
 | .wL e :: τ,t=>match Zka τ t with
  | some z=>some z
  | none=>if e.k=t then some (some e) else none
 | .nL e :: τ,t=>match Zka τ t with
  | some z=>some z
  | none=>if e.k=t then some (some e) else none
 | .dL u :: τ,t=>match Zka τ t with
  | some z=>some z
  | none=>if u=t then some none else none
 | _ :: τ,t=>Zka τ t
def fpT:List Et→Fp→Fp
 | [],p=>p
 | .rS t _ :: τ,p=>fpT τ ⟨bit p.rs t,p.ws,p.rl,p.wl⟩
 | .rL u _ :: τ,p=>fpT τ ⟨p.rs,p.ws,bit p.rl u,p.wl⟩
 | .wS e :: τ,p=>fpT τ ⟨p.rs,bit p.ws e.k,p.rl,p.wl⟩
 | .dup e :: τ,p=>fpT τ ⟨bit p.rs e.k,p.ws,p.rl,p.wl⟩
 | .wL e :: τ,p=>fpT τ ⟨p.rs,p.ws,p.rl,bit p.wl e.k⟩
 | .nL e :: τ,p=>fpT τ ⟨p.rs,p.ws,bit p.rl e.k,bit p.wl e.k⟩
 | .dL u :: τ,p=>fpT τ ⟨p.rs,p.ws,p.rl,bit p.wl u⟩
def Tr {ρ:Type} (n:Nat):Ev ρ→List Et→ρ→Prop
 | .fail,_,_=>False
 | .done r,τ,x=>τ=[]∧x=r
 | .rdS t k,τ,x=>∃ e τ',τ = .rS t e :: τ'∧Tr n (k e.x) τ' x
 | .rdL u k,τ,x=>∃ e τ',τ = .rL u e :: τ'∧Tr n (k e.st e.x) τ' x
 | .wrS t v e,τ,x=>∃ τ',τ = .wS ⟨t,n,v⟩ :: τ'∧Tr n e τ' x
 | .wrL u L e,τ,x=>∃ τ',τ = .wL ⟨u,n,L⟩ :: τ'∧Tr n e τ' x
 | .new u L e,τ,x=>∃ τ',τ = .nL ⟨u,n,L⟩ :: τ'∧Tr n e τ' x
 | .del u e,τ,x=>∃ τ',τ = .dL u :: τ'∧Tr n e τ' x
 | .bind y k,τ,x=>∃ z,y=some z∧Tr n (k z) τ x
 | .test t e1 e2,τ,x=>∃ s b τ',τ = .dup ⟨t,s,.data .bool b⟩ :: τ'∧(b=true→Tr n e1 τ' x)∧(b=false→Tr n e2 τ' x)
 | .alt b e1 e2,τ,x=>(b=true→Tr n e1 τ x)∧(b=false→Tr n e2 τ x)
theorem ZVt {ρ α:Type} {n:Nat} {r:α}:∀ {e:Ev ρ} {f:Fr} {l:Lo} {p:Fp} {K:ρ→Fr→Lo→Fp→Option α},Zsb n e f l p K=some r→∃ x τ,Tr n e τ x∧okT τ f l∧K x (ZSb τ f) (ZWb τ l) (fpT τ p)=some r:=by
 intro e
 induction e with
 | fail=>intro f l p K h;cases h
 | done x=>intro f l p K h;exact ⟨x,[],⟨rfl,rfl⟩,trivial,h⟩
 | rdS t k ih =>
  intro f l p K h;simp only [Zsb] at h;split at h
  ·rename_i e he;obtain ⟨x,τ,h1,h2,h3⟩:=ih _ h;exact ⟨x,.rS t e :: τ,⟨e,τ,rfl,h1⟩,⟨he,h2⟩,h3⟩
  ·cases h
 | rdL u k ih =>
  intro f l p K h;simp only [Zsb] at h;split at h
  ·rename_i e he;obtain ⟨x,τ,h1,h2,h3⟩:=ih _ _ h;exact ⟨x,.rL u e :: τ,⟨e,τ,rfl,h1⟩,⟨he,h2⟩,h3⟩
  ·cases h
 | wrS t v e ih=>intro f l p K h;obtain ⟨x,τ,h1,h2,h3⟩:=ih h;exact ⟨x,.wS ⟨t,n,v⟩ :: τ,⟨τ,rfl,h1⟩,h2,h3⟩
 | wrL u L e ih=>intro f l p K h;obtain ⟨x,τ,h1,h2,h3⟩:=ih h;exact ⟨x,.wL ⟨u,n,L⟩ :: τ,⟨τ,rfl,h1⟩,h2,h3⟩
 | new u L e ih =>
  intro f l p K h;simp only [Zsb] at h;split at h
  ·rename_i he;obtain ⟨x,τ,h1,h2,h3⟩:=ih h;exact ⟨x,.nL ⟨u,n,L⟩ :: τ,⟨τ,rfl,h1⟩,⟨he,h2⟩,h3⟩
  ·cases h
 | del u e ih=>intro f l p K h;obtain ⟨x,τ,h1,h2,h3⟩:=ih h;exact ⟨x,.dL u :: τ,⟨τ,rfl,h1⟩,h2,h3⟩
 | bind y k ih =>
  intro f l p K h;obtain ⟨z,hz,h⟩:=Zfa h;obtain ⟨x,τ,h1,h2,h3⟩:=ih _ h;exact ⟨x,τ,⟨z,hz,h1⟩,h2,h3⟩
 | test t e1 e2 i1 i2 =>
  intro f l p K h;simp only [Zsb] at h;split at h
  ·rename_i k s b hx;obtain ⟨_,hk⟩:=Zq hx;have hk:k=t:=hk;subst hk
   cases b with
   | true =>
    obtain ⟨x,τ,h1,h2,h3⟩:=i1 h;exact ⟨x,.dup ⟨k,s,.data .bool true⟩ :: τ,⟨s,true,τ,rfl,fun _=>h1,fun e=>by cases e⟩,⟨hx,h2⟩,h3⟩
   | false =>
    obtain ⟨x,τ,h1,h2,h3⟩:=i2 h;exact ⟨x,.dup ⟨k,s,.data .bool false⟩ :: τ,⟨s,false,τ,rfl,(fun e=>by cases e),fun _=>h1⟩,⟨hx,h2⟩,h3⟩
  ·cases h
 | alt b e1 e2 i1 i2 =>
  intro f l p K h
  cases b with
  | true =>
   obtain ⟨x,τ,h1,h2,h3⟩:=i1 h;exact ⟨x,τ,⟨fun _=>h1,fun e=>by cases e⟩,h2,h3⟩
  | false =>
   obtain ⟨x,τ,h1,h2,h3⟩:=i2 h;exact ⟨x,τ,⟨(fun e=>by cases e),fun _=>h1⟩,h2,h3⟩
theorem Z4l {ρ:Type} {n:Nat}:∀ {e:Ev ρ} {τ:List Et} {x:ρ} {f:Fr} {l:Lo},Tr n e τ x→okT τ f l→Zk n e f l fun x' f' l'=>x'=x∧f'=ZSb τ f∧l'=ZWb τ l:=by
 intro e
 induction e with
 | fail=>intro τ x f l h k;exact h
 | done r=>intro τ x f l h k;obtain ⟨rfl,rfl⟩:=h;exact ⟨rfl,rfl,rfl⟩
 | rdS t q ih=>intro τ x f l h k;obtain ⟨e,τ',rfl,h⟩:=h;exact ⟨e,k.1,ih _ (τ:=τ') h k.2⟩
 | rdL u q ih=>intro τ x f l h k;obtain ⟨e,τ',rfl,h⟩:=h;exact ⟨e,k.1,ih _ _ (τ:=τ') h k.2⟩
 | wrS t v e ih=>intro τ x f l h k;obtain ⟨τ',rfl,h⟩:=h;exact ih (τ:=τ') h k
 | wrL u L e ih=>intro τ x f l h k;obtain ⟨τ',rfl,h⟩:=h;exact ih (τ:=τ') h k
 | new u L e ih=>intro τ x f l h k;obtain ⟨τ',rfl,h⟩:=h;exact ⟨k.1,ih (τ:=τ') h k.2⟩
 | del u e ih=>intro τ x f l h k;obtain ⟨τ',rfl,h⟩:=h;exact ih (τ:=τ') h k
 | bind y q ih=>intro τ x f l h k;obtain ⟨z,hz,h⟩:=h;exact ⟨z,hz,ih _ h k⟩
 | test t e1 e2 i1 i2=>intro τ x f l h k;obtain ⟨s,b,τ',rfl,h1,h2⟩:=h;exact ⟨s,b,k.1,fun e=>i1 (τ:=τ') (h1 e) k.2,fun e=>i2 (τ:=τ') (h2 e) k.2⟩
 | alt b e1 e2 i1 i2=>intro τ x f l h k;exact ⟨fun e=>i1 (h.1 e) k,fun e=>i2 (h.2 e) k⟩
theorem ZMc:∀ {τ:List Et} {f:Fr} {l:Lo} {t:Nat},okT τ f l→lkE (ZSb τ f) t=(Z2a τ t).getD (lkE f t)
 | [],_,_,_,_=>rfl
 | .rS _ _ :: τ,_,_,_,h=>ZMc (τ:=τ) h.2
 | .rL _ _ :: τ,_,_,_,h=>ZMc (τ:=τ) h.2
 | .wL _ :: τ,_,_,_,h=>ZMc (τ:=τ) h
 | .nL _ :: τ,_,_,_,h=>ZMc (τ:=τ) h.2
 | .dL _ :: τ,_,_,_,h=>ZMc (τ:=τ) h
 | .wS e :: τ,f,l,t,h=>by
  have:=ZMc (t:=t) (show okT τ (e :: f) l from h)
  simp only [ZSb,Z2a]
  rw [this,ZR]
  cases Z2a τ t with
  | some z=>rfl
  | none=>by_cases h:e.k=t <;> simp [h]
 | .dup e :: τ,f,l,t,h=>by
  have:=ZMc (t:=t) (show okT τ (e :: f) l from h.2)
  simp only [ZSb,Z2a]
  rw [this,ZR]
  congr 1
  by_cases hk:e.k=t
  ·rw [if_pos hk,← hk,h.1]
  ·rw [if_neg hk]
theorem Zxc:∀ {τ:List Et} {f:Fr} {l:Lo},(l.map En.k).Nodup→okT τ f l→((ZWb τ l).map En.k).Nodup∧∀ t,lkE (ZWb τ l) t=(Zka τ t).getD (lkE l t)
 | [],_,_,hn,_=>⟨hn,fun _=>rfl⟩
 | .rS _ _ :: τ,_,_,hn,h=>Zxc (τ:=τ) hn h.2
 | .rL _ _ :: τ,_,_,hn,h=>Zxc (τ:=τ) hn h.2
 | .wS _ :: τ,_,_,hn,h=>Zxc (τ:=τ) hn h
 | .dup _ :: τ,_,_,hn,h=>Zxc (τ:=τ) hn h.2
 | .wL e :: τ,f,l,hn,h=>by
  obtain ⟨n1,n2⟩:=Zxb (t:=e.k) hn
  obtain ⟨k1,k2⟩:=Zxc (τ:=τ) (l:=e :: era l e.k) (List.nodup_cons.2 ⟨n2,n1⟩) h
  refine ⟨k1,fun t=>(k2 t).trans ?_⟩
  simp only [Zka]
  rw [ZR,ZUb hn]
  cases Zka τ t with
  | some z=>rfl
  | none=>by_cases hk:e.k=t <;> simp [hk]
 | .nL e :: τ,f,l,hn,h=>by
  obtain ⟨k1,k2⟩:=Zxc (τ:=τ) (l:=e :: l) (List.nodup_cons.2 ⟨Zmg h.1,hn⟩) h.2
  refine ⟨k1,fun t=>(k2 t).trans ?_⟩
  simp only [Zka]
  rw [ZR]
  cases Zka τ t with
  | some z=>rfl
  | none=>by_cases hk:e.k=t <;> simp [hk]
 | .dL u :: τ,f,l,hn,h=>by
  obtain ⟨k1,k2⟩:=Zxc (τ:=τ) (l:=era l u) (Zxb hn).1 h
  refine ⟨k1,fun t=>(k2 t).trans ?_⟩
  simp only [Zka]
  rw [ZUb hn]
  cases Zka τ t with
  | some z=>rfl
  | none=>by_cases hk:u=t <;> simp [hk]
theorem ZLd:∀ {τ:List Et} {f f2:Fr} {l l2:Lo},(l.map En.k).Nodup→(l2.map En.k).Nodup→okT τ f l→(∀ t,rdS τ t→lkE f t=lkE f2 t)→(∀ u,rdL τ u→lkE l u=lkE l2 u)→okT τ f2 l2
 | [],_,_,_,_,_,_,_,_,_=>trivial
 | .rS t e :: τ,_,_,_,_,n1,n2,h,k1,k2=>⟨(k1 t (.inl rfl)).symm.trans h.1,ZLd n1 n2 h.2 (fun t ht=>k1 t (.inr ht)) k2⟩
 | .rL u e :: τ,_,_,_,_,n1,n2,h,k1,k2=>⟨(k2 u (.inl rfl)).symm.trans h.1,ZLd n1 n2 h.2 k1 fun u hu=>k2 u (.inr hu)⟩
 | .wS e :: τ,f,f2,_,_,n1,n2,h,k1,k2=>ZLd (τ:=τ) n1 n2 h (fun t ht=>by
   rw [ZR,ZR]
   by_cases hk:e.k=t
   ·rw [if_pos hk,if_pos hk]
   ·rw [if_neg hk,if_neg hk];exact k1 t ht) k2
 | .dup e :: τ,f,f2,_,_,n1,n2,h,k1,k2=>⟨(k1 e.k (.inl rfl)).symm.trans h.1,ZLd (τ:=τ) n1 n2 h.2 (fun t ht=>by
   rw [ZR,ZR]
   by_cases hk:e.k=t
   ·rw [if_pos hk,if_pos hk]
   ·rw [if_neg hk,if_neg hk];exact k1 t (.inr ht)) k2⟩
 | .wL e :: τ,_,_,l,l2,n1,n2,h,k1,k2=>by
  obtain ⟨a1,a2⟩:=Zxb (t:=e.k) n1
  obtain ⟨b1,b2⟩:=Zxb (t:=e.k) n2
  refine ZLd (τ:=τ) (l:=e :: era l e.k) (l2:=e :: era l2 e.k) (List.nodup_cons.2 ⟨a2,a1⟩) (List.nodup_cons.2 ⟨b2,b1⟩) h k1 fun u hu=>?_
  rw [ZR,ZR]
  by_cases hk:e.k=u
  ·rw [if_pos hk,if_pos hk]
  ·rw [if_neg hk,if_neg hk,ZUb n1,ZUb n2,if_neg hk,if_neg hk];exact k2 u hu
 | .nL e :: τ,_,_,l,l2,n1,n2,h,k1,k2=>by
  have he:lkE l2 e.k=none:=(k2 e.k (.inl rfl)).symm.trans h.1
  refine ⟨he,ZLd (τ:=τ) (l:=e :: l) (l2:=e :: l2) (List.nodup_cons.2 ⟨Zmg h.1,n1⟩) (List.nodup_cons.2 ⟨Zmg he,n2⟩) h.2 k1 fun u hu=>?_⟩
  rw [ZR,ZR]
  by_cases hk:e.k=u
  ·rw [if_pos hk,if_pos hk]
  ·rw [if_neg hk,if_neg hk];exact k2 u (.inr hu)
 | .dL u :: τ,_,_,l,l2,n1,n2,h,k1,k2=>by
  refine ZLd (τ:=τ) (Zxb n1).1 (Zxb n2).1 h k1 fun k hk=>?_
  rw [ZUb n1,ZUb n2]
  by_cases e:u=k
  ·rw [if_pos e,if_pos e]
  ·rw [if_neg e,if_neg e];exact k2 k hk
theorem ZRe {m k:Nat}:(bit m k).testBit k=true:=by
 show (m ||| 2^k).testBit k=true;rw [Nat.testBit_or,Nat.testBit_two_pow_self,Bool.or_true]
theorem ZMe {m k t:Nat} (h:m.testBit t=true):(bit m k).testBit t=true:=by
 show (m ||| 2^k).testBit t=true;rw [Nat.testBit_or,h,Bool.true_or]
structure Fp.le (p q:Fp):Prop where
 rs:∀ t,p.rs.testBit t=true→q.rs.testBit t=true
 ws:∀ t,p.ws.testBit t=true→q.ws.testBit t=true
 rl:∀ t,p.rl.testBit t=true→q.rl.testBit t=true
 wl:∀ t,p.wl.testBit t=true→q.wl.testBit t=true
theorem Fp.le.trans {p q r:Fp} (h:p.le q) (k:q.le r):p.le r:=⟨fun t e=>k.rs t (h.rs t e),fun t e=>k.ws t (h.ws t e),fun t e=>k.rl t (h.rl t e),fun t e=>k.wl t (h.wl t e)⟩
theorem ZHb:∀ {τ:List Et} {p:Fp},p.le (fpT τ p)
 | [],_=>⟨fun _ h=>h,fun _ h=>h,fun _ h=>h,fun _ h=>h⟩
 | .rS t _ :: τ,p=>Fp.le.trans (q:=⟨bit p.rs t,p.ws,p.rl,p.wl⟩) ⟨fun _ h=>ZMe h,fun _ h=>h,fun _ h=>h,fun _ h=>h⟩ (ZHb (τ:=τ))
 | .rL u _ :: τ,p=>Fp.le.trans (q:=⟨p.rs,p.ws,bit p.rl u,p.wl⟩) ⟨fun _ h=>h,fun _ h=>h,fun _ h=>ZMe h,fun _ h=>h⟩ (ZHb (τ:=τ))
 | .wS e :: τ,p=>Fp.le.trans (q:=⟨p.rs,bit p.ws e.k,p.rl,p.wl⟩) ⟨fun _ h=>h,fun _ h=>ZMe h,fun _ h=>h,fun _ h=>h⟩ (ZHb (τ:=τ))
 | .dup e :: τ,p=>Fp.le.trans (q:=⟨bit p.rs e.k,p.ws,p.rl,p.wl⟩) ⟨fun _ h=>ZMe h,fun _ h=>h,fun _ h=>h,fun _ h=>h⟩ (ZHb (τ:=τ))
 | .wL e :: τ,p=>Fp.le.trans (q:=⟨p.rs,p.ws,p.rl,bit p.wl e.k⟩) ⟨fun _ h=>h,fun _ h=>h,fun _ h=>h,fun _ h=>ZMe h⟩ (ZHb (τ:=τ))
 | .nL e :: τ,p=>Fp.le.trans (q:=⟨p.rs,p.ws,bit p.rl e.k,bit p.wl e.k⟩) ⟨fun _ h=>h,fun _ h=>h,fun _ h=>ZMe h,fun _ h=>ZMe h⟩ (ZHb (τ:=τ))
 | .dL u :: τ,p=>Fp.le.trans (q:=⟨p.rs,p.ws,p.rl,bit p.wl u⟩) ⟨fun _ h=>h,fun _ h=>h,fun _ h=>h,fun _ h=>ZMe h⟩ (ZHb (τ:=τ))
theorem ZYd:∀ {τ:List Et} {p:Fp} {t:Nat},rdS τ t→(fpT τ p).rs.testBit t=true
 | .rS t _ :: τ,_,_,.inl e=>by subst e;exact (ZHb (τ:=τ)).rs _ ZRe
 | .dup _ :: τ,_,_,.inl e=>by subst e;exact (ZHb (τ:=τ)).rs _ ZRe
 | .rS t _ :: τ,_,_,.inr h=>ZYd (τ:=τ) h
 | .dup _ :: τ,_,_,.inr h=>ZYd (τ:=τ) h
 | .rL _ _ :: τ,_,_,h=>ZYd (τ:=τ) h
 | .wS _ :: τ,_,_,h=>ZYd (τ:=τ) h
 | .wL _ :: τ,_,_,h=>ZYd (τ:=τ) h
 | .nL _ :: τ,_,_,h=>ZYd (τ:=τ) h
 | .dL _ :: τ,_,_,h=>ZYd (τ:=τ) h
theorem Z5d:∀ {τ:List Et} {p:Fp} {t:Nat},rdL τ t→(fpT τ p).rl.testBit t=true
 | .rL t _ :: τ,_,_,.inl e=>by subst e;exact (ZHb (τ:=τ)).rl _ ZRe
 | .nL _ :: τ,_,_,.inl e=>by subst e;exact (ZHb (τ:=τ)).rl _ ZRe
 | .rL t _ :: τ,_,_,.inr h=>Z5d (τ:=τ) h
 | .nL _ :: τ,_,_,.inr h=>Z5d (τ:=τ) h
 | .rS _ _ :: τ,_,_,h=>Z5d (τ:=τ) h
 | .wS _ :: τ,_,_,h=>Z5d (τ:=τ) h
 | .dup _ :: τ,_,_,h=>Z5d (τ:=τ) h
 | .wL _ :: τ,_,_,h=>Z5d (τ:=τ) h
 | .dL _ :: τ,_,_,h=>Z5d (τ:=τ) h
theorem ZCc:∀ {τ:List Et} {p:Fp} {t:Nat},Z2a τ t≠none→(fpT τ p).ws.testBit t=true
 | [],_,_,h=>absurd rfl h
 | .wS e :: τ,_,t,h=>by
  by_cases hk:e.k=t
  ·subst hk;exact (ZHb (τ:=τ)).ws _ ZRe
  ·refine ZCc (τ:=τ) fun h0=>h ?_
   simp only [Z2a,h0,if_neg hk]
 | .rS _ _ :: τ,_,_,h=>ZCc (τ:=τ) h
 | .rL _ _ :: τ,_,_,h=>ZCc (τ:=τ) h
 | .dup _ :: τ,_,_,h=>ZCc (τ:=τ) h
 | .wL _ :: τ,_,_,h=>ZCc (τ:=τ) h
 | .nL _ :: τ,_,_,h=>ZCc (τ:=τ) h
 | .dL _ :: τ,_,_,h=>ZCc (τ:=τ) h
theorem Z3c:∀ {τ:List Et} {p:Fp} {t:Nat},Zka τ t≠none→(fpT τ p).wl.testBit t=true
 | [],_,_,h=>absurd rfl h
 | .wL e :: τ,_,t,h=>by
  by_cases hk:e.k=t
  ·subst hk;exact (ZHb (τ:=τ)).wl _ ZRe
  ·refine Z3c (τ:=τ) fun h0=>h ?_
   simp only [Zka,h0,if_neg hk]
 | .nL e :: τ,_,t,h=>by
  by_cases hk:e.k=t
  ·subst hk;exact (ZHb (τ:=τ)).wl _ ZRe
  ·refine Z3c (τ:=τ) fun h0=>h ?_
   simp only [Zka,h0,if_neg hk]
 | .dL u :: τ,_,t,h=>by
  by_cases hk:u=t
  ·subst hk;exact (ZHb (τ:=τ)).wl _ ZRe
  ·refine Z3c (τ:=τ) fun h0=>h ?_
   simp only [Zka,h0,if_neg hk]
 | .rS _ _ :: τ,_,_,h=>Z3c (τ:=τ) h
 | .rL _ _ :: τ,_,_,h=>Z3c (τ:=τ) h
 | .wS _ :: τ,_,_,h=>Z3c (τ:=τ) h
 | .dup _ :: τ,_,_,h=>Z3c (τ:=τ) h
theorem Zcg {a b t:Nat} (h:Nat.land a b=0) (ha:a.testBit t=true) (hb:b.testBit t=true):False:=by
 have:(a &&& b).testBit t=true:=by rw [Nat.testBit_and,ha,hb];rfl
 rw [show (a &&& b)=0 from h] at this;simp at this
theorem Zcl {a b:Nat} (h:Nat.lor a b=0):a=0∧b=0:=by
 have h:a ||| b=0:=h;exact Nat.or_eq_zero_iff.1 h
theorem ZLi {a b t:Nat} (h:a.testBit t=true∨b.testBit t=true):(Nat.lor a b).testBit t=true:=by
 show (a ||| b).testBit t=true;rw [Nat.testBit_or];rcases h with h | h <;> simp [h]
structure Apart (τ σ:List Et):Prop where
 s1:∀ t,Z2a τ t≠none→rdS σ t→False
 s2:∀ t,Z2a τ t≠none→Z2a σ t≠none→False
 s3:∀ t,rdS τ t→Z2a σ t≠none→False
 l1:∀ t,Zka τ t≠none→rdL σ t→False
 l2:∀ t,Zka τ t≠none→Zka σ t≠none→False
 l3:∀ t,rdL τ t→Zka σ t≠none→False
theorem ZYp {τ σ:List Et} {p q:Fp} (h:(fpT τ p).free (fpT σ q)=true):Apart τ σ:=by
 have h:=Nat.eq_of_beq_eq_true h;obtain ⟨h1,h2⟩:=Zcl h;obtain ⟨h3,h4⟩:=Zcl h1;obtain ⟨h5,h6⟩:=Zcl h2;exact ⟨fun t a b=>Zcg h3 (ZCc a) (ZLi (.inl (ZYd b))),fun t a b=>Zcg h3 (ZCc a) (ZLi (.inr (ZCc b))),fun t a b=>Zcg h4 (ZYd a) (ZCc b),
  fun t a b=>Zcg h5 (Z3c a) (ZLi (.inl (Z5d b))),fun t a b=>Zcg h5 (Z3c a) (ZLi (.inr (Z3c b))),fun t a b=>Zcg h6 (Z5d a) (Z3c b)⟩
end Go.Eng
namespace Go.Eng
open Go.RowKit
def Zye:List (List Et)→Fr→Fr
 | [],f=>f
 | τ :: r,f=>Zye r (ZSb τ f)
def Zge:List (List Et)→Lo→Lo
 | [],l=>l
 | τ :: r,l=>Zge r (ZWb τ l)
def okTs:List (List Et)→Fr→Lo→Prop
 | [],_,_=>True
 | τ :: r,f,l=>okT τ f l∧okTs r (ZSb τ f) (ZWb τ l)
def Zoa {β:Type} (eff:List Et→Nat→Option β) (sel:Nat→Bool):List (List Et)→Nat→β→Nat→β
 | [],_,acc,_=>acc
 | τ :: r,i,acc,t=>Zoa eff sel r (i+1) (if sel i then (eff τ t).getD acc else acc) t
section
variable {β:Type} {eff:List Et→Nat→Option β}
theorem ZGd {sel sel':Nat→Bool} {t:Nat}:∀ {Ts:List (List Et)} {i:Nat} {acc:β},(∀ j τ,Ts[j]? = some τ→eff τ t≠none→sel (i+j)=sel' (i+j))→Zoa eff sel Ts i acc t=Zoa eff sel' Ts i acc t
 | [],_,_,_=>rfl
 | τ :: r,i,acc,h=>by
  have h1:(if sel i then (eff τ t).getD acc else acc)=(if sel' i then (eff τ t).getD acc else acc):=by
   cases he:eff τ t with
   | none=>simp
   | some z =>
    have:=h 0 τ rfl (by rw [he];exact fun e=>by cases e);rw [Nat.add_zero] at this;rw [this]
  simp only [Zoa];rw [h1];exact ZGd fun j σ hj hs=>by have:=h (j+1) σ hj hs;rwa [← Nat.add_assoc,Nat.add_right_comm] at this
theorem Zve {sel:Nat→Bool} {t:Nat}:∀ {Ts:List (List Et)} {i:Nat} {acc:β},(∀ j τ,Ts[j]? = some τ→sel (i+j)=true→eff τ t=none)→Zoa eff sel Ts i acc t=acc
 | [],_,_,_=>rfl
 | τ :: r,i,acc,h=>by
  simp only [Zoa]
  rw [Zve fun j σ hj hs=>h (j+1) σ hj (by rwa [← Nat.add_assoc,Nat.add_right_comm])]
  by_cases hs:sel i=true
  ·rw [if_pos hs,h 0 τ rfl hs];rfl
  ·rw [if_neg hs]
theorem ZOl {sel:Nat→Bool} {t:Nat}:∀ {Ts:List (List Et)} {i k:Nat} {acc:β} {τ:List Et} {z:β},Ts[k]? = some τ→sel (i+k)=true→eff τ t=some z→(∀ j σ,k<j→Ts[j]? = some σ→sel (i+j)=true→eff σ t=none)→Zoa eff sel Ts i acc t=z
 | [],_,_,_,_,_,h,_,_,_=>by cases h
 | σ :: r,i,0,acc,τ,z,h,hs,he,hj=>by
  cases h
  simp only [Zoa]
  rw [if_pos (show sel i=true from hs),he]
  exact Zve fun j σ hσ hsj=>hj (j+1) σ (by omega) hσ (by rwa [← Nat.add_assoc,Nat.add_right_comm])
 | σ :: r,i,k+1,acc,τ,z,h,hs,he,hj=>by
  simp only [Zoa]
  exact ZOl (k:=k) (τ:=τ) h (by rwa [Nat.add_right_comm]) he fun j σ' hkj hσ hsj=>hj (j+1) σ' (by omega) hσ (by rwa [← Nat.add_assoc,Nat.add_right_comm])
end
theorem Zjl:∀ {Ts:List (List Et)} {f:Fr} {l:Lo} {b i:Nat} {τ:List Et},okTs Ts f l→(l.map En.k).Nodup→Ts[i]? = some τ→∃ fi li,okT τ fi li∧(li.map En.k).Nodup∧(∀ t,lkE fi t=Zoa Z2a (fun j=>decide (j<b+i)) Ts b (lkE f t) t)∧∀ t,lkE li t=Zoa Zka (fun j=>decide (j<b+i)) Ts b (lkE l t) t
 | [],_,_,_,_,_,_,_,h=>by cases h
 | σ :: r,f,l,b,0,τ,h,hn,ht=>by
  cases ht
  refine ⟨f,l,h.1,hn,fun t=>(Zve fun j _ _ hs=>?_).symm,fun t=>(Zve fun j _ _ hs=>?_).symm⟩ <;> (have:=of_decide_eq_true hs;omega)
 | σ :: r,f,l,b,i+1,τ,h,hn,ht=>by
  obtain ⟨n1,hl⟩:=Zxc hn h.1
  obtain ⟨fi,li,k1,k2,k3,k4⟩:=Zjl (b:=b+1) (i:=i) h.2 n1 ht
  have e:(fun j=>decide (j<b+1+i))=fun j=>decide (j<b+(i+1)):=by funext j;congr 1;rw [Nat.add_assoc,Nat.add_comm 1 i]
  have hb:decide (b<b+(i+1))=true:=by simp
  refine ⟨fi,li,k1,k2,fun t=>?_,fun t=>?_⟩
  ·rw [k3 t,e,ZMc h.1];simp only [Zoa];rw [if_pos hb]
  ·rw [k4 t,e,hl t];simp only [Zoa];rw [if_pos hb]
theorem Zwl:∀ {Ts:List (List Et)} {f:Fr} {l:Lo} {b:Nat},okTs Ts f l→(l.map En.k).Nodup→((Zge Ts l).map En.k).Nodup∧(∀ t,lkE (Zye Ts f) t=Zoa Z2a (fun _=>true) Ts b (lkE f t) t)∧∀ t,lkE (Zge Ts l) t=Zoa Zka (fun _=>true) Ts b (lkE l t) t
 | [],_,_,_,_,hn=>⟨hn,fun _=>rfl,fun _=>rfl⟩
 | τ :: r,f,l,b,h,hn=>by
  obtain ⟨n1,hl⟩:=Zxc hn h.1
  obtain ⟨k1,k2,k3⟩:=Zwl (b:=b+1) h.2 n1
  refine ⟨k1,fun t=>?_,fun t=>?_⟩
  ·rw [show Zye (τ :: r) f=Zye r (ZSb τ f) from rfl,k2 t,ZMc h.1];rfl
  ·rw [show Zge (τ :: r) l=Zge r (ZWb τ l) from rfl,k3 t,hl t];rfl
theorem ZEn {α:Type} {C:Cf} {ops:List Oper} {r:α}:∀ {os:List Oper} {f:Fr} {l:Lo} {n:Nat} {K:Fr→Lo→Nat→List Fp→Option α},ZNf C ops os f l n K=some r →
  ∃ Ts:List (List Et),Ts.length=os.length∧okTs Ts f l∧(∀ i o τ,os[i]? = some o→Ts[i]? = some τ→Tr (n+i) (gop C ops (n+i) o) τ ())∧K (Zye Ts f) (Zge Ts l) (n+os.length) (Ts.map fun τ=>fpT τ Fp.no)=some r
 | [],f,l,n,K,h=>⟨[],rfl,trivial,fun _ _ _ h=>by simp at h,h⟩
 | o :: os,f,l,n,K,h=>by
  simp only [ZNf] at h
  obtain ⟨⟨⟩,τ,h1,h2,h3⟩:=ZVt h
  obtain ⟨Ts,k1,k2,k3,k4⟩:=ZEn h3
  refine ⟨τ :: Ts,by simp [k1],⟨h2,k2⟩,fun i o' τ' ho ht=>?_,?_⟩
  ·cases i with
   | zero=>cases ho;cases ht;exact h1
   | succ i=>have:=k3 i o' τ' ho ht;rwa [Nat.add_right_comm] at this
  ·rw [List.length_cons,← Nat.add_assoc,Nat.add_right_comm];exact k4
theorem ZUt {ρ:Type} {n:Nat} {A:Prop}:∀ {e:Ev ρ} {f:Fr} {l:Lo} {K:ρ→Fr→Lo→Prop},Zk n e f l K→(∀ x f' l',K x f' l'→A)→A:=by
 intro e
 induction e with
 | fail=>intro f l K h k;exact h.elim
 | done x=>intro f l K h k;exact k _ _ _ h
 | rdS t q ih=>intro f l K h k;obtain ⟨x,hx,h⟩:=h;exact ih _ h k
 | rdL u q ih=>intro f l K h k;obtain ⟨x,hx,h⟩:=h;exact ih _ _ h k
 | wrS t x e ih=>intro f l K h k;exact ih h k
 | wrL u L e ih=>intro f l K h k;exact ih h k
 | new u L e ih=>intro f l K h k;exact ih h.2 k
 | del u e ih=>intro f l K h k;exact ih h k
 | bind x q ih=>intro f l K h k;obtain ⟨x,hx,h⟩:=h;exact ih _ h k
 | test t e1 e2 i1 i2 =>
  intro f l K h k;obtain ⟨s,b,h1,h2,h3⟩:=h
  cases b with
  | true=>exact i1 (h2 rfl) k
  | false=>exact i2 (h3 rfl) k
 | alt b e1 e2 i1 i2 =>
  intro f l K h k
  cases b with
  | true=>exact i1 (h.1 rfl) k
  | false=>exact i2 (h.2 rfl) k
theorem Zzm {C:Cf} {ops:List Oper} {m:Nat}:∀ {os:List Oper} {Ts:List (List Et)} {f:Fr} {l:Lo} {n:Nat},m≤n→Ts.length=os.length→okTs Ts f l→(l.map En.k).Nodup→(∀ i o τ,os[i]? = some o→Ts[i]? = some τ→Tr (n+i) (gop C ops (n+i) o) τ ())→Old m f l (Zye Ts f) (Zge Ts l)
 | _,[],_,_,_,_,_,_,_,_=>Old.refl
 | [],_ :: _,_,_,_,_,h,_,_,_=>by cases h
 | o :: os,τ :: Ts,f,l,n,hm,hl,h,hn,ht=>by
  have h1:=Zth hm Old.refl hn (Z4l (ht 0 o τ rfl rfl) h.1)
  have h2:Old m f l (ZSb τ f) (ZWb τ l):=ZUt h1 fun x f' l' ⟨⟨_,e1,e2⟩,h⟩=>by subst e1;subst e2;exact h
  exact h2.trans (Zzm (n:=n+1) (by omega) (by simpa using hl) h.2 (Zxc hn h.1).1 fun i o' τ' ho hτ=>by
   have:=ht (i+1) o' τ' ho hτ
   rwa [← Nat.add_assoc,Nat.add_right_comm] at this) (Nat.le_refl m)
theorem Zhq {m:Nat} {q:Fp}:∀ {bef:List Fp} {i0:Nat},chk1 m q bef i0=true→∀ i p,bef[i]? = some p→m.testBit (i0+i)=true∨p.free q=true
 | [],_,_,_,_,h=>by cases h
 | p0 :: r,i0,h,i,p,hp=>by
  simp only [chk1] at h
  cases i with
  | zero =>
   cases hp
   rw [Nat.add_zero]
   split at h
   ·rename_i e;exact .inl e
   ·split at h
    ·rename_i e;exact .inr e
    ·cases h
  | succ i =>
   have h':chk1 m q r (i0+1)=true:=by
    split at h
    ·exact h
    ·split at h
     ·exact h
     ·cases h
   have:=Zhq h' i p hp
   rwa [Nat.add_right_comm] at this
theorem ZHk:∀ {qs:List Fp} {bef:List Fp} {ms:List Nat},Zae bef ms qs=true→∀ j q,qs[j]? = some q→∃ m,ms[j]? = some m∧∀ i p,(bef++qs)[i]? = some p→i<bef.length+j→m.testBit i=true∨p.free q=true
 | [],_,_,_,_,_,h=>by cases h
 | q0 :: qs,bef,ms,h,j,q,hq=>by
  cases ms with
  | nil=>cases h
  | cons m0 ms =>
   simp only [Zae] at h
   split at h
   ·rename_i h1
    cases j with
    | zero =>
     cases hq
     refine ⟨m0,rfl,fun i p hp hi=>?_⟩
     rw [List.getElem?_append_left (by omega)] at hp
     have:=Zhq h1 i p hp
     rwa [Nat.zero_add] at this
    | succ j =>
     obtain ⟨m,h2,h3⟩:=ZHk h j q hq
     refine ⟨m,h2,fun i p hp hi=>h3 i p (by rw [List.append_assoc];exact hp) (by simp;omega)⟩
   ·cases h
theorem ZYi {done:List Nat} {t:Nat}:∀ {es:List Edge} {m:Nat},(Zzc done es m).testBit t=true→m.testBit t=true ∨ ∃ e ∈ es,Region.binds .any e=true∧(t=e.on∨(done.getD e.on 0).testBit t=true)
 | [],_,h=>.inl h
 | e :: r,m,h=>by
  simp only [Zzc] at h
  split at h
  ·rename_i hb
   rcases ZYi h with h | ⟨e',he,h1,h2⟩
   ·have h:((m ||| 2^e.on) ||| done.getD e.on 0).testBit t=true:=h
    rw [Nat.testBit_or,Nat.testBit_or,Nat.testBit_two_pow,Bool.or_eq_true,Bool.or_eq_true] at h
    rcases h with (h | h) | h
    ·exact .inl h
    ·exact .inr ⟨e,by simp,hb,.inl (by simpa using (of_decide_eq_true h).symm)⟩
    ·exact .inr ⟨e,by simp,hb,.inr h⟩
   ·exact .inr ⟨e',by simp [he],h1,h2⟩
  ·rcases ZYi h with h | ⟨e',he,h1,h2⟩
   ·exact .inl h
   ·exact .inr ⟨e',by simp [he],h1,h2⟩
theorem ZZq:∀ {os:List Oper} {done:List Nat} {j:Nat} {m:Nat},done[j]? = some m→(ZWa os done)[j]? = some m
 | [],_,_,_,h=>h
 | o :: os,done,j,m,h=>ZZq (os:=os) (by rw [List.getElem?_append_left (List.getElem?_eq_some_iff.1 h).1];exact h)
theorem Z9f {S:Nat→Prop}:∀ {os:List Oper} {done:List Nat},(∀ j o,os[j]? = some o→S (done.length+j)→∀ e ∈ o.after,Region.binds .any e=true→S e.on)→(∀ j m,done[j]? = some m→S j→∀ i,m.testBit i=true→S i) →
  ∀ j o m,os[j]? = some o→(ZWa os done)[done.length+j]? = some m→(∀ e ∈ o.after,Region.binds .any e=true→S e.on)→∀ i,m.testBit i=true→S i
 | [],_,_,_,_,_,_,h,_,_,_,_=>by cases h
 | o0 :: os,done,hc,hd,j,o,m,ho,hm,he,i,hi=>by
  have key:(∀ e ∈ o0.after,Region.binds .any e=true→S e.on)→∀ i,(Zzc done o0.after.toList 0).testBit i=true→S i:=fun he i hi=>by
   rcases ZYi hi with h | ⟨e,h1,h2,h3⟩
   ·simp at h
   ·have hS:=he e (by simpa using h1) h2
    rcases h3 with h3 | h3
    ·subst h3;exact hS
    ·cases hg:done[e.on]? with
     | none=>rw [List.getD_eq_getElem?_getD,hg] at h3;simp at h3
     | some x=>rw [List.getD_eq_getElem?_getD,hg] at h3;exact hd _ x hg hS i h3
  simp only [ZWa] at hm
  cases j with
  | zero =>
   cases ho
   rw [Nat.add_zero] at hm
   have:(ZWa os (done++[Zzc done o0.after.toList 0]))[done.length]? = some (Zzc done o0.after.toList 0):=ZZq (by simp)
   rw [this] at hm;cases hm
   exact key he i hi
  | succ j =>
   refine Z9f (os:=os) (done:=done++[Zzc done o0.after.toList 0]) (fun j' o' ho' hS=>hc (j'+1) o' ho' (by rw [List.length_append,List.length_singleton] at hS;rwa [← Nat.add_assoc,Nat.add_right_comm])) (fun j' m' hm' hS=>?_) j o m ho (by rw [List.length_append,List.length_singleton,Nat.add_right_comm];exact hm) he i hi
   rcases Nat.lt_or_ge j' done.length with h | h
   ·rw [List.getElem?_append_left h] at hm';exact hd j' m' hm' hS
   ·rw [List.getElem?_append_right h] at hm'
    cases hj:j'-done.length with
    | zero =>
     rw [hj] at hm';cases hm'
     refine key (hc 0 o0 rfl ?_)
     rwa [Nat.add_zero,show done.length=j' by omega]
    | succ k=>rw [hj] at hm';cases hm'
theorem Zwq:∀ {os:List Oper} {i0:Nat},Zhe i0 os=true→∀ i o,os[i]? = some o→∀ e ∈ o.after,Region.binds .any e=true→e.on<i0+i
 | [],_,_,_,_,h,_,_,_=>by cases h
 | o0 :: os,i0,h,i,o,ho,e,he,hb=>by
  simp only [Zhe] at h
  split at h
  ·rename_i h1
   cases i with
   | zero =>
    cases ho
    have:∀ {es:List Edge},Zkh i0 es=true→∀ e ∈ es,Region.binds .any e=true→e.on<i0:=by
     intro es
     induction es with
     | nil=>intro _ e h;cases h
     | cons x r ih =>
      intro h e he hb;simp only [Zkh] at h;split at h
      ·split at h
       ·rename_i hlt;rcases List.mem_cons.1 he with rfl | he
        ·exact Nat.le_of_ble_eq_true hlt
        ·exact ih h e he hb
       ·cases h
      ·rename_i hx;rcases List.mem_cons.1 he with rfl | he
       ·rw [hb] at hx;cases hx
       ·exact ih h e he hb
    exact this h1 e (by simpa using he) hb
   | succ i=>have:=Zwq h i o ho e he hb;omega
  ·cases h
section
variable {P:Program} {K:Nat} {w0:Base} {v0:Zb} {σ:List (Nat×Value)} {ℓ:List Loc} {v:Zb} {a:Act} {w:World} {ops:Array Oper} {Q:Exit→Act→World→Prop} {rest:List Oper}
end
end Go.Eng
namespace Go.Eng
open Go.RowKit
section
variable {N:Nat} {G:V→Value→Prop} {w0:Base} {v0:Zb}
theorem F2_perm {R:En LV→List Loc→Prop} {l l2:Lo} (hp:l.Perm l2):∀ {E:List (List Loc)},F2 R l E→∃ E2,F2 R l2 E2∧E.flatten.Perm E2.flatten:=by
 induction hp with
 | nil=>intro E h;exact ⟨E,h,List.Perm.refl _⟩
 | cons x _ ih =>
  intro E h
  cases E with
  | nil=>exact h.elim
  | cons es E =>
   obtain ⟨E2,h1,h2⟩:=ih h.2;exact ⟨es :: E2,⟨h.1,h1⟩,by simp only [List.flatten_cons];exact List.Perm.append_left _ h2⟩
 | swap x y l =>
  intro E h
  cases E with
  | nil=>exact h.elim
  | cons es E =>
   cases E with
   | nil=>exact h.2.elim
   | cons es2 E =>
    refine ⟨es2 :: es :: E,⟨h.2.1,h.1,h.2.2⟩,?_⟩;simp only [List.flatten_cons];rw [← List.append_assoc,← List.append_assoc];exact List.Perm.append_right _ List.perm_append_comm
 | trans _ _ i1 i2 =>
  intro E h;obtain ⟨E2,h1,h2⟩:=i1 h;obtain ⟨E3,h3,h4⟩:=i2 h1;exact ⟨E3,h3,h2.trans h4⟩
theorem Zmd {l:Lo} (hn:(l.map En.k).Nodup) {e:En LV} (h:e ∈ l):lkE l e.k=some e:=by
 induction l with
 | nil=>cases h
 | cons p r ih =>
  simp only [List.map_cons,List.nodup_cons] at hn;rw [ZR];rcases List.mem_cons.1 h with rfl | h
  ·rw [if_pos rfl]
  ·rw [if_neg fun e2=>hn.1 (List.mem_map.2 ⟨e,h,Eq.symm e2⟩)];exact ih hn.2 h
theorem Z5n {l:Lo} (hn:(l.map En.k).Nodup):l.Nodup:=by
 induction l with
 | nil=>exact List.nodup_nil
 | cons p r ih =>
  simp only [List.map_cons,List.nodup_cons] at hn;exact List.nodup_cons.2 ⟨fun h=>hn.1 (List.mem_map.2 ⟨p,h,rfl⟩),ih hn.2⟩
theorem Zpy {l l2:Lo} (hn:(l.map En.k).Nodup) (hn2:(l2.map En.k).Nodup) (h:∀ u,lkE l u=lkE l2 u):l.Perm l2:=by
 refine (List.perm_ext_iff_of_nodup (Z5n hn) (Z5n hn2)).2 fun e=>⟨fun he=>?_,fun he=>?_⟩
 ·have:=Zmd hn he;rw [h] at this;exact (Zq this).1
 ·have:=Zmd hn2 he;rw [← h] at this;exact (Zq this).1
theorem RelX.look {U X:Nat→Prop} {f f2:Fr} {l l2:Lo} {a:Act} {w:World} {γ:Nat→Gh} {v:Zb} {ℓ:List Loc} (h:RelX N G w0 v0 U X f l a w γ v ℓ) (hn2:(l2.map En.k).Nodup) (hf:∀ t,lkE f2 t=lkE f t) (hl:∀ u,lkE l2 u=lkE l u):RelX N G w0 v0 U X f2 l2 a w γ v ℓ:=by
 obtain ⟨E,hE,hp⟩:=h.lr;have hle:Le U v γ l v γ l2:=by
  have:=Le.refl (U:=U) hE (Zb.le_refl v);exact ⟨Zb.le_refl _,fun u e' hk he=>this.l u e' hk (by rw [← hl];exact he)⟩
 have hpl:=Zpy h.nd hn2 fun u=>(hl u).symm;obtain ⟨E2,h1,h2⟩:=F2_perm hpl hE;refine ⟨h.st,fun t e he=>?_,⟨E2,h1.imp fun e he es hr=>?_,hp.trans h2⟩,hn2,fun t e he=>h.uf t e ((hf t) ▸ he),fun e he=>h.ul e (hpl.mem_iff.2 he),fun x y hg=>⟨Zhb hle (h.gh x y hg).2 (h.gh x y hg).1,(h.gh x y hg).2⟩⟩
 ·have he':=(hf t) ▸ he;exact Zhb hle (h.uf t e he').1 (h.fr t e he')
 ·exact Z6h hle (h.ul e (hpl.mem_iff.2 he)).2.2 rfl hr
end
end Go.Eng
namespace Go.Eng
open Go.RowKit
section
variable {N:Nat} {G:V→Value→Prop} {w0:Base} {v0:Zb}
theorem Rel.draw {U:Nat→Prop} {f:Fr} {l:Lo} {a:Act} {w:World} (h:Rel N G w0 v0 U f l a w):Rel N G w0 v0 U f l a w.drew:=by
 obtain ⟨γ,v,ℓ,h⟩:=h;exact ⟨γ,v,ℓ,h.st.drew,h.fr,h.lr,h.nd,h.uf,h.ul,h.gh⟩
def sel (listed:Array Bool):Nat→Bool:=fun j=>listed.getD j false
def UE (n:Nat) (listed:Array Bool):Nat→Prop:=fun k=>k<n ∨ ∃ j,listed.getD j false=true∧k=n+j
structure Inv (N:Nat) (G:V→Value→Prop) (w0:Base) (v0:Zb) (ops:Array Oper) (Ts:List (List Et)) (f:Fr) (l:Lo) (n:Nat) (listed:Array Bool) (a:Act) (w:World):Prop where
 size:listed.size=ops.size
 closed:∀ (j:Nat) (o:Oper),ops[j]? = some o→listed.getD j false=true→∀ e ∈ o.after,Region.binds .any e=true→listed.getD e.on false=true
 rel:∃ f1 l1,Rel N G w0 v0 (UE n listed) f1 l1 a w∧(∀ t,lkE f1 t=Zoa Z2a (sel listed) Ts 0 (lkE f t) t)∧∀ t,lkE l1 t=Zoa Zka (sel listed) Ts 0 (lkE l t) t
theorem Zvj {ops:Array Oper} (hb:Zhe 0 ops.toList=true) {listed:Array Bool} (hs:listed.size=ops.size):∀ (n j:Nat),j<n→j<ops.size→listed.getD j true=false→Region.ready .any ops listed≠[]
 | 0,j,h,_,_=>by omega
 | n+1,j,h,hj,hl=>by
  intro h0
  by_cases hp:∃ e ∈ (ops[j]).after,Region.binds .any e=true∧listed.getD e.on false=false
  ·obtain ⟨e,he,hbb,hn⟩:=hp
   have hlt:=Zwq hb j ops[j] (by simp [hj]) e he hbb
   refine Zvj hb hs n e.on (by omega) (by omega) ?_ h0
   rw [ZCb (by omega)];exact hn
  ·have:j ∈ Region.ready .any ops listed:=mem_ready.2 ⟨hl,ops[j],by simp [hj],fun e he hb=>by
    cases hx:listed.getD e.on false with
    | true=>rfl
    | false=>exact absurd ⟨e,he,hb,hx⟩ hp⟩
   rw [h0] at this;cases this
theorem ZVv {C:Cf} (hC:CfOK C) {ops:Array Oper} {Ts:List (List Et)} {f:Fr} {l:Lo} {n:Nat} {Q:Exit→Act→World→Prop} (hb:Zhe 0 ops.toList=true) (hds:∀ o ∈ ops.toList,∀ k,o.dst=some k→k<N) (hl:Ts.length=ops.toList.length)
  (hn:(l.map En.k).Nodup) (hok:okTs Ts f l) (htr:∀ i o τ,ops.toList[i]? = some o→Ts[i]? = some τ→Tr (n+i) (gop C ops.toList (n+i) o) τ ()) (hch:Zae [] (ZWa ops.toList []) (Ts.map fun τ=>fpT τ Fp.no)=true)
  (hQ:∀ a' w',Rel N G w0 v0 (· < n+ops.toList.length) (Zye Ts f) (Zge Ts l) a' w'→Q .normal a' w'):∀ (fuel:Nat) (listed:Array Bool) (a:Act) (w:World),left listed=fuel→Inv N G w0 v0 ops Ts f l n listed a w→wpAny C.P .any ops Q fuel listed a w:=by
 have ord:∀ (i j:Nat) (τ σ:List Et),i<j→Ts[i]? = some τ→Ts[j]? = some σ→∃ m,(ZWa ops.toList [])[j]? = some m∧(m.testBit i=true∨Apart τ σ):=by
  intro i j τ σ hij hτ hσ;obtain ⟨m,h1,h2⟩:=ZHk hch j (fpT σ Fp.no) (by simp [hσ]);refine ⟨m,h1,(h2 i (fpT τ Fp.no) (by simp [hτ]) (by simpa using hij)).imp_right ZYp⟩
 have opAt:∀ (j:Nat) (σ:List Et),Ts[j]? = some σ→∃ o,ops[j]? = some o:=fun j σ h=>by
  have:=(List.getElem?_eq_some_iff.1 h).1;rw [hl] at this;exact ⟨ops[j]'(by simpa using this),by simp⟩
 intro fuel
 induction fuel with
 | zero =>
  intro listed a w hfu hI;have hall:∀ j,listed.getD j true=true:=fun j=>Zbl hfu;refine ⟨?_,?_⟩
  ·cases hx:Region.ready .any ops listed with
   | nil=>rfl
   | cons p r =>
    obtain ⟨h1,_⟩:=mem_ready.1 (show p ∈ Region.ready .any ops listed by rw [hx];simp);rw [hall p] at h1;cases h1
  ·obtain ⟨f1,l1,⟨γ,v,ℓ,h1⟩,h2,h3⟩:=hI.rel;obtain ⟨k1,k2,k3⟩:=Zwl (b:=0) hok hn;have hsel:∀ (j:Nat) (σ:List Et),Ts[j]? = some σ→sel listed (0+j)=true:=fun j σ h=>by
    obtain ⟨o,ho⟩:=opAt j σ h;rw [Nat.zero_add];show listed.getD j false=true;rw [← ZCb (by rw [hI.size];exact Z2d ho)];exact hall j
   refine hQ a w ⟨γ,v,ℓ,(h1.look k1 (fun t=>?_) fun t=>?_).mono (fun k hk=>?_) fun k hk=>?_⟩
   ·rw [k2 t,h2 t];exact (ZGd fun j σ hj _=>(hsel j σ hj)).symm
   ·rw [k3 t,h3 t];exact (ZGd fun j σ hj _=>(hsel j σ hj)).symm
   all_goals
    rcases hk with hk | ⟨j,hj,rfl⟩
    ·omega
    ·have:j<listed.size:=by
      rcases Nat.lt_or_ge j listed.size with h | h
      ·exact h
      ·simp [Array.getElem?_eq_none h] at hj
     rw [hI.size] at this;simp;omega
 | succ fuel ih =>
  intro listed a w hfu hI;refine ⟨fun h0=>?_,fun i hi=>?_⟩
  ·obtain ⟨j,hj,hj2⟩:=ZCn (listed:=listed) (by omega);exact absurd h0 (Zvj hb hI.size (j+1) j (by omega) (by rw [← hI.size];exact hj) hj2)
  ·obtain ⟨hun,o,ho,hall⟩:=mem_ready.1 hi;have hil:i<listed.size:=by rw [hI.size];exact Z2d ho
   have hunf:listed.getD i false=false:=by rw [← ZCb hil];exact hun
   have ho':ops.toList[i]? = some o:=by rw [Array.getElem?_toList];exact ho
   have hlt:i<Ts.length:=by rw [hl];exact (List.getElem?_eq_some_iff.1 ho').1
   have hτ:Ts[i]? = some Ts[i]:=List.getElem?_eq_getElem hlt;generalize hg:Ts[i]=τ at hτ;obtain ⟨fi,li,b1,b2,b3,b4⟩:=Zjl (b:=0) hok hn hτ;obtain ⟨f1,l1,⟨γ,v,ℓ,h1⟩,h2,h3⟩:=hI.rel;have befo:∀ (j:Nat) (σ:List Et),j<i→Ts[j]? = some σ→listed.getD j false=true∨Apart σ τ:=by
    intro j σ hj hσ;obtain ⟨m,q1,q2⟩:=ord j i σ τ hj hσ hτ;refine q2.imp_left fun hbit=>?_;refine Z9f (S:=fun k=>listed.getD k false=true) (done:=[]) (fun j' o' ho' hS=>hI.closed j' o' (by rw [← Array.getElem?_toList];exact ho') (by simpa using hS)) (fun j' m' hm'=>by simp at hm') i o m ho' (by simpa using q1) hall j hbit
   have afte:∀ (j:Nat) (σ:List Et),i<j→Ts[j]? = some σ→listed.getD j false=false∨Apart τ σ:=by
    intro j σ hj hσ;obtain ⟨m,q1,q2⟩:=ord i j τ σ hj hτ hσ;refine q2.imp_left fun hbit=>?_
    cases hx:listed.getD j false with
    | false=>rfl
    | true =>
     obtain ⟨oj,hoj⟩:=opAt j σ hσ;have:=Z9f (S:=fun k=>listed.getD k false=true) (done:=[]) (fun j' o' ho' hS=>hI.closed j' o' (by rw [← Array.getElem?_toList];exact ho') (by simpa using hS)) (fun j' m' hm'=>by simp at hm') j oj m (by rw [Array.getElem?_toList];exact hoj) (by simpa using q1) (hI.closed j oj hoj hx) i hbit;rw [hunf] at this;cases this
   have same:∀ {β:Type} (eff:List Et→Nat→Option β) (P:Nat→Prop) (acc:β) (t:Nat),P t→(∀ σ,Apart σ τ→P t→eff σ t≠none→False)→(∀ σ,Apart τ σ→P t→eff σ t≠none→False)→Zoa eff (fun j=>decide (j<0+i)) Ts 0 acc t=Zoa eff (sel listed) Ts 0 acc t:=by
    intro β eff P acc t hP hA hB;refine ZGd fun j σ hj hne=>?_;simp only [Nat.zero_add];rcases Nat.lt_trichotomy j i with h | h | h
    ·rcases befo j σ h hj with q | q
     ·rw [decide_eq_true h];exact q.symm
     ·exact (hA σ q hP hne).elim
    ·subst h;rw [decide_eq_false (Nat.lt_irrefl _)];exact hunf.symm
    ·rcases afte j σ h hj with q | q
     ·rw [decide_eq_false (by omega)];exact q.symm
     ·exact (hB σ q hP hne).elim
   have okτ:okT τ f1 l1:=by
    refine ZLd b2 h1.nd b1 (fun t ht=>?_) fun t ht=>?_
    ·rw [b3 t,h2 t];exact same Z2a (rdS τ) _ t ht (fun σ q hp hne=>q.s1 t hne hp) fun σ q hp hne=>q.s3 t hp hne
    ·rw [b4 t,h3 t];exact same Zka (rdL τ) _ t ht (fun σ q hp hne=>q.l1 t hne hp) fun σ q hp hne=>q.l3 t hp hne
   have hruns:=Z4l (htr i o τ ho' hτ) okτ;have hnU:¬ UE n listed (n+i):=by
    rintro (h | ⟨j,hj,e⟩)
    ·omega
    ·have:i=j:=by omega
     subst this;rw [hunf] at hj;cases hj
   have selS:∀ j,sel (listed.setIfInBounds i true) j=if i=j then true else sel listed j:=fun j=>by
    by_cases h:i=j
    ·subst h;rw [if_pos rfl];exact Zvb hil
    ·rw [if_neg h];exact ZPa h
   have hUE:∀ k,UE n listed k→UE n (listed.setIfInBounds i true) k:=by
    rintro k (h | ⟨j,hj,e⟩)
    ·exact .inl h
    ·refine .inr ⟨j,?_,e⟩;have:=selS j;unfold sel at this;rw [this,hj];split <;> rfl
   have hXi:UE n (listed.setIfInBounds i true) (n+i):=.inr ⟨i,Zvb hil,rfl⟩;have hgg:=Z1k (X:=UE n (listed.setIfInBounds i true)) hC (h1.mono (fun _ h=>h) hUE) hUE hXi hnU hds (hds o (List.mem_of_getElem? ho')) hruns;have upd:∀ {β:Type} (eff:List Et→Nat→Option β) (acc:β) (t:Nat),(∀ σ,Apart τ σ→eff τ t≠none→eff σ t≠none→False)→Zoa eff (sel (listed.setIfInBounds i true)) Ts 0 acc t=(eff τ t).getD (Zoa eff (sel listed) Ts 0 acc t):=by
    intro β eff acc t hA
    cases he:eff τ t with
    | none =>
     refine ZGd fun j σ hj hne=>?_;rw [Nat.zero_add,selS j,if_neg];intro e;subst e;rw [hτ] at hj;cases hj;exact hne he
    | some z =>
     refine ZOl (k:=i) hτ (by rw [Nat.zero_add,selS i,if_pos rfl]) he fun j σ hij hσ hs=>?_;rw [Nat.zero_add,selS j,if_neg (by omega)] at hs;rcases afte j σ hij hσ with q | q
     ·rw [show sel listed j=false from q] at hs;cases hs
     ·cases hx:eff σ t with
      | none=>rfl
      | some y=>exact (hA σ q (by rw [he];exact fun e=>by cases e) (by rw [hx];exact fun e=>by cases e)).elim
   have nxt:∀ f' l' a' w',((()=()∧f'=ZSb τ f1∧l'=ZWb τ l1)∧True)→Rel N G w0 v0 (UE n (listed.setIfInBounds i true)) f' l' a' w'→wpAny C.P .any ops Q fuel (listed.setIfInBounds i true) a' w':=by
    rintro f' l' a' w' ⟨⟨_,rfl,rfl⟩,_⟩ hr;refine ih _ _ _ (by have:=Zeh hun;omega) ⟨by simp [hI.size],fun j oj hj hlj e he hbb=>?_,_,_,hr,fun t=>?_,fun t=>?_⟩
    ·have hj2:=selS e.on;have hj3:=selS j;unfold sel at hj2 hj3;rw [hj2];split
     ·rfl
     ·rw [hj3] at hlj;split at hlj
      ·rename_i hij;subst hij;rw [ho] at hj;cases hj;exact hall e he hbb
      ·exact hI.closed j oj hj hlj e he hbb
    ·rw [ZMc okτ,h2 t];exact (upd Z2a _ t fun σ q hp hne=>q.s2 t hp hne).symm
    ·rw [(Zxc h1.nd okτ).2 t,h3 t];exact (upd Zka _ t fun σ q hp hne=>q.l2 t hp hne).symm
   unfold wpOp;rw [ho];rcases hgg with ⟨hw,hg⟩ | ⟨hw,f',l',q1,q2⟩
   ·simp only [hw,if_true];exact .inl (Z3i rfl hg fun x w' ⟨f',l',q1,q2⟩=>nxt f' l' _ w' ⟨⟨rfl,q1.2⟩,trivial⟩ q2)
   ·simp only [hw];exact nxt f' l' _ w ⟨⟨rfl,q1.2⟩,trivial⟩ q2
end
end Go.Eng
namespace Go.Eng
open Go.RowKit
section
variable {N:Nat} {G:V→Value→Prop} {w0:Base} {v0:Zb}
theorem ZUp:∀ {os:List Oper} {done:List Nat},(ZWa os done).length=done.length+os.length
 | [],done=>by simp [ZWa]
 | o :: os,done=>by
  simp only [ZWa]
  rw [ZUp]
  simp;omega
theorem Zop {m:Nat}:∀ {k:Nat},allB m k=true→∀ i,i<k→m.testBit i=true
 | 0,_,_,h=>by omega
 | k+1,h,i,hi=>by
  simp only [allB] at h
  split at h
  ·rename_i hb
   rcases Nat.lt_or_ge i k with h1 | h1
   ·exact Zop h i h1
   ·rw [show i=k by omega];exact hb
  ·cases h
theorem Zdw {ops:List Oper} {o:Oper} (h:Zhj ops=some o):ops.dropLast++[o]=ops∧o.guard=none∧∀ i,i<ops.dropLast.length→(Zzc (ZWa ops.dropLast []) o.after.toList 0).testBit i=true:=by
 unfold Zhj at h;split at h
 ·cases h
 ·rename_i q hq;split at h
  ·cases h
  ·rename_i hc;split at h
   ·rename_i hb
    cases h
    refine ⟨?_,?_,Zop hb⟩
    ·rcases List.eq_nil_or_concat ops with rfl | ⟨L,b,rfl⟩
     ·cases hq
     ·simp at hq;subst hq;simp
    ·unfold Z7p at hc;split at hc
     ·rename_i hg;exact hg
     ·cases hc
   ·cases h
theorem Zpl {l:Array Bool} {i j:Nat} {b:Bool} (h:¬ j=i):(l.setIfInBounds i true).getD j b=l.getD j b:=by
 simp [Array.getD_eq_getD_getElem?,Array.getElem?_setIfInBounds_ne (Ne.symm h)]
theorem Zkv {C:Cf} (hC:CfOK C) {ops:Array Oper} {ol:Oper} {Ts:List (List Et)} {f:Fr} {l:Lo} {n:Nat} {Q:Exit→Act→World→Prop} (he:ops.toList.dropLast++[ol]=ops.toList) (hg:ol.guard=none) (hanc:∀ i,i<ops.toList.dropLast.length→(Zzc (ZWa ops.toList.dropLast []) ol.after.toList 0).testBit i=true)
  (hb:Zhe 0 ops.toList=true) (hds:∀ o ∈ ops.toList,∀ k,o.dst=some k→k<N) (hl:Ts.length=ops.toList.dropLast.length)
  (hn:(l.map En.k).Nodup) (hok:okTs Ts f l) (htr:∀ i o τ,ops.toList.dropLast[i]? = some o→Ts[i]? = some τ→Tr (n+i) (gop C ops.toList (n+i) o) τ ()) (hch:Zae [] (ZWa ops.toList.dropLast []) (Ts.map fun τ=>fpT τ Fp.no)=true)
  (hQ:∀ a' w',Rel N G w0 v0 (· < n+ops.toList.dropLast.length) (Zye Ts f) (Zge Ts l) a' w'→wpList C.P ops Q [ol] a' w'):∀ (fuel:Nat) (listed:Array Bool) (a:Act) (w:World),left listed=fuel+1→listed.getD ops.toList.dropLast.length true=false→Inv N G w0 v0 ops Ts f l n listed a w→wpAny C.P .any ops Q (fuel+1) listed a w:=by
 have hsz:ops.size=ops.toList.dropLast.length+1:=by
  have:=congrArg List.length he;simp at this ⊢;omega
 have initAt:∀ {j:Nat} {o:Oper},ops.toList.dropLast[j]? = some o→ops[j]? = some o:=fun {j o} h=>by
  rw [← Array.getElem?_toList,← he,List.getElem?_append_left (List.getElem?_eq_some_iff.1 h).1];exact h
 have lastAt:ops[ops.toList.dropLast.length]? = some ol:=by
  rw [← Array.getElem?_toList]
  conv=>lhs;rw [← he]
  simp
 have ord:∀ (i j:Nat) (τ σ:List Et),i<j→Ts[i]? = some τ→Ts[j]? = some σ→∃ m,(ZWa ops.toList.dropLast [])[j]? = some m∧(m.testBit i=true∨Apart τ σ):=by
  intro i j τ σ hij hτ hσ;obtain ⟨m,h1,h2⟩:=ZHk hch j (fpT σ Fp.no) (by simp [hσ]);refine ⟨m,h1,(h2 i (fpT τ Fp.no) (by simp [hτ]) (by simpa using hij)).imp_right ZYp⟩
 have opAt:∀ (j:Nat) (σ:List Et),Ts[j]? = some σ→∃ o,ops.toList.dropLast[j]? = some o:=fun j σ h=>by
  have:=(List.getElem?_eq_some_iff.1 h).1;rw [hl] at this;exact ⟨_,List.getElem?_eq_getElem this⟩
 have hsub:∀ {listed:Array Bool} {a:Act} {w:World},Inv N G w0 v0 ops Ts f l n listed a w→∀ j o,ops.toList.dropLast[j]? = some o→listed.getD (([]:List Nat).length+j) false=true→∀ e ∈ o.after,Region.binds .any e=true→listed.getD e.on false=true:=fun hI j o ho hS=>hI.closed j o (initAt ho) (by simpa using hS);intro fuel
 induction fuel with
 | zero =>
  intro listed a w hfu hlast hI;have hll:ops.toList.dropLast.length<listed.size:=by rw [hI.size];omega
  have h0:left (listed.setIfInBounds ops.toList.dropLast.length true)=0:=by have:=Zeh hlast;omega
  have hall':∀ j,(listed.setIfInBounds ops.toList.dropLast.length true).getD j true=true:=fun j=>Zbl h0;have hall:∀ j,j≠ops.toList.dropLast.length→j<listed.size→listed.getD j false=true:=fun j hj hlt=>by
   have:=hall' j;rw [← ZCb hlt];rw [Zpl hj] at this;exact this
  refine ⟨fun h0=>?_,fun i hi=>?_⟩
  ·exact absurd h0 (Zvj hb hI.size (ops.toList.dropLast.length+1) ops.toList.dropLast.length (by omega) (by omega) hlast)
  ·obtain ⟨hun,o,ho,hbef⟩:=mem_ready.1 hi;have hil:i<listed.size:=by rw [hI.size];exact Z2d ho
   have hi2:i=ops.toList.dropLast.length:=by
    rcases Nat.decEq i ops.toList.dropLast.length with h | h
    ·have:=hall i h hil;rw [← ZCb hil,hun] at this;cases this
    ·exact h
   subst hi2;rw [lastAt] at ho
   cases ho
   obtain ⟨f1,l1,⟨γ,v,ℓ,h1⟩,h2,h3⟩:=hI.rel;obtain ⟨k1,k2,k3⟩:=Zwl (b:=0) hok hn;have hsel:∀ (j:Nat) (σ:List Et),Ts[j]? = some σ→sel listed (0+j)=true:=fun j σ h=>by
    have hj:=(List.getElem?_eq_some_iff.1 h).1;rw [hl] at hj;rw [Nat.zero_add];exact hall j (by omega) (by omega)
   have hw:=hQ a w ⟨γ,v,ℓ,(h1.look k1 (fun t=>by rw [k2 t,h2 t];exact (ZGd fun j σ hj _=>(hsel j σ hj).symm)) fun t=>by rw [k3 t,h3 t];exact (ZGd fun j σ hj _=>(hsel j σ hj).symm)).mono (fun k hk=>?_) fun k hk=>?_⟩
   ·unfold wpOp;rw [lastAt];unfold wpList at hw;have hwt:Region.wanted ol (yielded ops a.tmps)=true:=ZVb hg;simp only [hwt,if_true] at hw ⊢;refine hw.imp_left (Oper.wp_mono fun a' w' hq=>⟨?_,hq⟩)
    cases hx:Region.ready .any ops (listed.setIfInBounds ops.toList.dropLast.length true) with
    | nil=>rfl
    | cons p r =>
     obtain ⟨h1,_⟩:=mem_ready.1 (show p ∈ Region.ready .any ops (listed.setIfInBounds ops.toList.dropLast.length true) by rw [hx];simp);rw [hall' p] at h1;cases h1
   all_goals
    rcases hk with hk | ⟨j,hj,rfl⟩
    ·omega
    ·have hlt:j<listed.size:=by
      rcases Nat.lt_or_ge j listed.size with h | h
      ·exact h
      ·simp [Array.getElem?_eq_none h] at hj
     have hne:j≠ops.toList.dropLast.length:=fun e=>by
      rw [e,← ZCb hll,hlast] at hj;cases hj
     rw [hI.size] at hlt;show n+j<n+_;omega
 | succ fuel ih =>
  intro listed a w hfu hlast hI;refine ⟨fun h0=>?_,fun i hi=>?_⟩
  ·exact absurd h0 (Zvj hb hI.size (ops.toList.dropLast.length+1) ops.toList.dropLast.length (by omega) (by omega) hlast)
  ·obtain ⟨hun,o,ho,hall⟩:=mem_ready.1 hi;have hil:i<listed.size:=by rw [hI.size];exact Z2d ho
   have hunf:listed.getD i false=false:=by rw [← ZCb hil];exact hun
   have hne:i≠ops.toList.dropLast.length:=by
    intro e;subst e;rw [lastAt] at ho
    cases ho
    have hbits:∀ j,j<ops.toList.dropLast.length→listed.getD j false=true:=fun j hj=>by
     rcases ZYi (hanc j hj) with h | ⟨e,h1,h2,h3⟩
     ·simp at h
     ·have hS:=hall e (by simpa using h1) h2;rcases h3 with h3 | h3
      ·rw [h3];exact hS
      ·cases hg:(ZWa ops.toList.dropLast [])[e.on]? with
       | none=>rw [List.getD_eq_getElem?_getD,hg] at h3;simp at h3
       | some m =>
        rw [List.getD_eq_getElem?_getD,hg] at h3;have hlt:e.on<ops.toList.dropLast.length:=by
         have:=(List.getElem?_eq_some_iff.1 hg).1;rw [ZUp] at this;simpa using this
        have hoe:=List.getElem?_eq_getElem hlt;exact Z9f (S:=fun k=>listed.getD k false=true) (done:=[]) (hsub hI) (fun j' m' hm'=>by simp at hm') e.on _ m hoe (by simpa using hg) (hI.closed e.on _ (initAt hoe) hS) j h3
    have h0:left (listed.setIfInBounds ops.toList.dropLast.length true)=fuel+1:=by have:=Zeh hlast;omega
    obtain ⟨j,hj,hj2⟩:=ZCn (listed:=listed.setIfInBounds ops.toList.dropLast.length true) (by omega);have hjs:j<listed.size:=by simpa using hj
    rcases Nat.decEq j ops.toList.dropLast.length with h | h
    ·have h1:=hbits j (by rw [hI.size] at hjs;omega);rw [← ZCb hjs] at h1;rw [Zpl h,h1] at hj2;cases hj2
    ·subst h;have:(listed.setIfInBounds ops.toList.dropLast.length true).getD ops.toList.dropLast.length true=true:=by simp [hjs]
     rw [this] at hj2;cases hj2
   have hlt0:i<ops.toList.dropLast.length:=by
    rw [hI.size] at hil;omega
   have ho':ops.toList.dropLast[i]? = some o:=by
    have:=List.getElem?_eq_getElem hlt0;rw [this];have h2:=initAt this;rw [ho] at h2;exact h2.symm
   have hlt:i<Ts.length:=by rw [hl];exact (List.getElem?_eq_some_iff.1 ho').1
   have hτ:Ts[i]? = some Ts[i]:=List.getElem?_eq_getElem hlt;generalize hg:Ts[i]=τ at hτ;obtain ⟨fi,li,b1,b2,b3,b4⟩:=Zjl (b:=0) hok hn hτ;obtain ⟨f1,l1,⟨γ,v,ℓ,h1⟩,h2,h3⟩:=hI.rel;have befo:∀ (j:Nat) (σ:List Et),j<i→Ts[j]? = some σ→listed.getD j false=true∨Apart σ τ:=by
    intro j σ hj hσ;obtain ⟨m,q1,q2⟩:=ord j i σ τ hj hσ hτ;refine q2.imp_left fun hbit=>?_;refine Z9f (S:=fun k=>listed.getD k false=true) (done:=[]) (hsub hI) (fun j' m' hm'=>by simp at hm') i o m ho' (by simpa using q1) hall j hbit
   have afte:∀ (j:Nat) (σ:List Et),i<j→Ts[j]? = some σ→listed.getD j false=false∨Apart τ σ:=by
    intro j σ hj hσ;obtain ⟨m,q1,q2⟩:=ord i j τ σ hj hτ hσ;refine q2.imp_left fun hbit=>?_
    cases hx:listed.getD j false with
    | false=>rfl
    | true =>
     obtain ⟨oj,hoj⟩:=opAt j σ hσ;have:=Z9f (S:=fun k=>listed.getD k false=true) (done:=[]) (hsub hI) (fun j' m' hm'=>by simp at hm') j oj m hoj (by simpa using q1) (hI.closed j oj (initAt hoj) hx) i hbit;rw [hunf] at this;cases this
   have same:∀ {β:Type} (eff:List Et→Nat→Option β) (P:Nat→Prop) (acc:β) (t:Nat),P t→(∀ σ,Apart σ τ→P t→eff σ t≠none→False)→(∀ σ,Apart τ σ→P t→eff σ t≠none→False)→Zoa eff (fun j=>decide (j<0+i)) Ts 0 acc t=Zoa eff (sel listed) Ts 0 acc t:=by
    intro β eff P acc t hP hA hB;refine ZGd fun j σ hj hne=>?_;simp only [Nat.zero_add];rcases Nat.lt_trichotomy j i with h | h | h
    ·rcases befo j σ h hj with q | q
     ·rw [decide_eq_true h];exact q.symm
     ·exact (hA σ q hP hne).elim
    ·subst h;rw [decide_eq_false (Nat.lt_irrefl _)];exact hunf.symm
    ·rcases afte j σ h hj with q | q
     ·rw [decide_eq_false (by omega)];exact q.symm
     ·exact (hB σ q hP hne).elim
   have okτ:okT τ f1 l1:=by
    refine ZLd b2 h1.nd b1 (fun t ht=>?_) fun t ht=>?_
    ·rw [b3 t,h2 t];exact same Z2a (rdS τ) _ t ht (fun σ q hp hne=>q.s1 t hne hp) fun σ q hp hne=>q.s3 t hp hne
    ·rw [b4 t,h3 t];exact same Zka (rdL τ) _ t ht (fun σ q hp hne=>q.l1 t hne hp) fun σ q hp hne=>q.l3 t hp hne
   have hruns:=Z4l (htr i o τ ho' hτ) okτ;have hnU:¬ UE n listed (n+i):=by
    rintro (h | ⟨j,hj,e⟩)
    ·omega
    ·have:i=j:=by omega
     subst this;rw [hunf] at hj;cases hj
   have selS:∀ j,sel (listed.setIfInBounds i true) j=if i=j then true else sel listed j:=fun j=>by
    by_cases h:i=j
    ·subst h;rw [if_pos rfl];exact Zvb hil
    ·rw [if_neg h];exact ZPa h
   have hUE:∀ k,UE n listed k→UE n (listed.setIfInBounds i true) k:=by
    rintro k (h | ⟨j,hj,e⟩)
    ·exact .inl h
    ·refine .inr ⟨j,?_,e⟩;have:=selS j;unfold sel at this;rw [this,hj];split <;> rfl
   have hXi:UE n (listed.setIfInBounds i true) (n+i):=.inr ⟨i,Zvb hil,rfl⟩;have hgg:=Z1k (X:=UE n (listed.setIfInBounds i true)) hC (h1.mono (fun _ h=>h) hUE) hUE hXi hnU hds (hds o (by rw [← he];exact List.mem_append_left _ (List.mem_of_getElem? ho'))) hruns;have upd:∀ {β:Type} (eff:List Et→Nat→Option β) (acc:β) (t:Nat),(∀ σ,Apart τ σ→eff τ t≠none→eff σ t≠none→False)→Zoa eff (sel (listed.setIfInBounds i true)) Ts 0 acc t=(eff τ t).getD (Zoa eff (sel listed) Ts 0 acc t):=by
    intro β eff acc t hA
    cases he:eff τ t with
    | none =>
     refine ZGd fun j σ hj hne=>?_;rw [Nat.zero_add,selS j,if_neg];intro e;subst e;rw [hτ] at hj;cases hj;exact hne he
    | some z =>
     refine ZOl (k:=i) hτ (by rw [Nat.zero_add,selS i,if_pos rfl]) he fun j σ hij hσ hs=>?_;rw [Nat.zero_add,selS j,if_neg (by omega)] at hs;rcases afte j σ hij hσ with q | q
     ·rw [show sel listed j=false from q] at hs;cases hs
     ·cases hx:eff σ t with
      | none=>rfl
      | some y=>exact (hA σ q (by rw [he];exact fun e=>by cases e) (by rw [hx];exact fun e=>by cases e)).elim
   have nxt:∀ f' l' a' w',((()=()∧f'=ZSb τ f1∧l'=ZWb τ l1)∧True)→Rel N G w0 v0 (UE n (listed.setIfInBounds i true)) f' l' a' w'→wpAny C.P .any ops Q (fuel+1) (listed.setIfInBounds i true) a' w':=by
    rintro f' l' a' w' ⟨⟨_,rfl,rfl⟩,_⟩ hr;refine ih _ _ _ (by have:=Zeh hun;omega) (by
     rw [Zpl (Ne.symm hne)];exact hlast) ⟨by simp [hI.size],fun j oj hj hlj e he hbb=>?_,_,_,hr,fun t=>?_,fun t=>?_⟩
    ·have hj2:=selS e.on;have hj3:=selS j;unfold sel at hj2 hj3;rw [hj2];split
     ·rfl
     ·rw [hj3] at hlj;split at hlj
      ·rename_i hij;subst hij;rw [ho] at hj;cases hj;exact hall e he hbb
      ·exact hI.closed j oj hj hlj e he hbb
    ·rw [ZMc okτ,h2 t];exact (upd Z2a _ t fun σ q hp hne=>q.s2 t hp hne).symm
    ·rw [(Zxc h1.nd okτ).2 t,h3 t];exact (upd Zka _ t fun σ q hp hne=>q.l2 t hp hne).symm
   unfold wpOp;rw [ho];rcases hgg with ⟨hw,hg⟩ | ⟨hw,f',l',q1,q2⟩
   ·simp only [hw,if_true];exact .inl (Z3i rfl hg fun x w' ⟨f',l',q1,q2⟩=>nxt f' l' _ w' ⟨⟨rfl,q1.2⟩,trivial⟩ q2)
   ·simp only [hw];exact nxt f' l' _ w ⟨⟨rfl,q1.2⟩,trivial⟩ q2
end
end Go.Eng
namespace Go.Eng
open Go.RowKit
section
variable {N:Nat} {G:V→Value→Prop} {w0:Base} {v0:Zb}
def ZOd (N:Nat) (G:V→Value→Prop) (w0:Base) (v0:Zb) (n:Nat) (f:Fr) (l:Lo) (p:Fr→Lo→Nat→Prop) (S:Act→World→Prop):Prop :=
 ∀ f' l' n' a' w',p f' l' n'→n≤n'→Old n f l f' l'→Rel N G w0 v0 (· < n') f' l' a' w'→S a' w'
theorem ZOd.step {n n1:Nat} {f f1:Fr} {l l1:Lo} {p:Fr→Lo→Nat→Prop} {S:Act→World→Prop} (h:ZOd N G w0 v0 n f l p S) (hn:n≤n1) (ho:Old n f l f1 l1):ZOd N G w0 v0 n1 f1 l1 p S :=
 fun f' l' n' a' w' hp hn' ho' hr=>h f' l' n' a' w' hp (by omega) (ho.trans ho' hn) hr
theorem draw_ok {C:Cf} (hC:CfOK C) {α:Type} {r:α} {id:Nat} {ops:Array Oper} {f:Fr} {l:Lo} {n:Nat} {K:Fr→Lo→Nat→Option α} {Q:Exit→Act→World→Prop} {a:Act} {w:World} (hm:C.P.follows .mixedOrders=true) (hb:Zhe 0 ops.toList=true) (hds:∀ o ∈ ops.toList,∀ k,o.dst=some k→k<N)
  (h:(ZNf C ops.toList ops.toList f l n fun f l n ps=>match Zae [] (ZWa ops.toList []) ps with
   | true=>K f l n
   | false=>none)=some r) (hr:Rel N G w0 v0 (· < n) f l a w) (hQ:ZOd N G w0 v0 n f l (fun f l n=>K f l n=some r) (Q .normal)):(Code.region id ops true).wp C.P Q a w:=by
 obtain ⟨Ts,h1,h2,h3,h4⟩:=ZEn h;split at h4
 ·rename_i hch;have hn:(l.map En.k).Nodup:=by obtain ⟨_,_,_,hr⟩:=hr;exact hr.nd
  refine wp_region_any hm ?_;have hz:∀ j,(Array.replicate ops.size false).getD j false=false:=fun j=>getD_replicate_false _ _;have hl:left (Array.replicate ops.size false)=ops.size:=by simp [left]
  refine ZVv hC (Ts:=Ts) hb hds h1 hn h2 h3 hch (fun a' w' hr'=>hQ _ _ _ a' w' h4 (by omega) (Zzm (Nat.le_refl n) h1 h2 hn h3) hr') ops.size _ a w.drew hl ⟨by simp,fun j o _ hj=>?_,f,l,?_,fun t=>?_,fun t=>?_⟩
  ·rw [hz] at hj;cases hj
  ·obtain ⟨γ,v,ℓ,hr⟩:=hr.draw;exact ⟨γ,v,ℓ,hr.mono (fun _ h=>.inl h) fun _ h=>.inl h⟩
  ·exact (Zve fun j _ _ hs=>by rw [show sel _ _=false from hz _] at hs;cases hs).symm
  ·exact (Zve fun j _ _ hs=>by rw [show sel _ _=false from hz _] at hs;cases hs).symm
 ·cases h4
def Zbg (C:Cf) (cf:CallF):Prop:=∀ {α:Type} {g:FuncId} {ags:V} {l:Lo} {n:Nat} {K:V→Lo→Nat→Option α} {r:α},cf α g ags l n K=some r→∀ {N:Nat} {G:V→Value→Prop} {w0:Base} {v0:Zb} {a:Act} {w:World} {γ:Nat→Gh} {v:Zb} {ℓ:List Loc} {vals:List Value},
 RelX N G w0 v0 (· < n) (· < n) [] l a w γ v ℓ→RR v γ l true ags vals→ags.ok (· < n)→ZM C.P g∧Calls C.P g vals.toArray w fun e w'=>∃ y c l' n' γ' v' ℓ',e = .returned y∧K c l' n'=some r∧n≤n'∧(∀ f,Old n f l f l')∧RelX N G w0 v0 (· < n') (· < n') [] l' a w' γ' v' ℓ'∧RV v' γ' l' (Zad c) y∧(Zad c).ok (· < n')
theorem ZDr {U X:Nat→Prop} {f:Fr} {l:Lo} {a:Act} {w:World} {γ:Nat→Gh} {v:Zb} {ℓ:List Loc} (hr:RelX N G w0 v0 U X f l a w γ v ℓ):∀ {xs:List Operand} {c:V},ZQi f xs=some c→RR v γ l true c (xs.map a.eval)∧c.ok U
 | [],c,h=>by cases h;exact ⟨rfl,trivial⟩
 | x :: xs,c,h=>by
  simp only [ZQi] at h
  split at h
  ·cases h
  ·rename_i V1 c1 hnt h1 h2
   cases h
   obtain ⟨q1,q2⟩:=Zim hr h1
   obtain ⟨q3,q4⟩:=ZDr hr h2
   obtain ⟨cs,hcs,hqe⟩:=Zub q1 (fun c e=>hnt c (by rw [e]))
   exact ⟨⟨cs,_,by rw [List.map_cons,hqe],hcs,q3⟩,q2,q4⟩
  ·cases h
theorem Zep {v:Zb} {γ:Nat→Gh} {l:Lo} {U:Nat→Prop}:∀ {c d:V} {xs ys:List Value},RR v γ l true c xs→RR v γ l true d ys→c.ok U→d.ok U→RR v γ l true (appV c d) (xs++ys)∧(appV c d).ok U
 | .nl,d,xs,ys,h,k,_,kd=>by rw [show xs=[] from h];exact ⟨k,kd⟩
 | .cons a b,d,xs,ys,⟨cs,zs,e1,e2,e3⟩,k,kc,kd=>by
  subst e1
  obtain ⟨q1,q2⟩:=Zep (c:=b) e3 k kc.2 kd
  exact ⟨⟨cs,_,rfl,e2,q1⟩,kc.1,q2⟩
theorem inl1_ok {C:Cf} {cf:CallF} (hcf:Zbg C cf) {α:Type} {r:α} {o:Oper} {g:FuncId} {ags:V} {f0 f:Fr} {l:Lo} {n:Nat} {K:Fr→Lo→Nat→Option α} {a:Act} {w:World} {γ:Nat→Gh} {v:Zb} {ℓ:List Loc} (hi:ZHi C f0 o=some (g,ags)) (h:inl1 cf o g ags f l n K=some r)
  (hr0:RelX N G w0 v0 (· < n) (· < n) f0 l a w γ v ℓ) (hr:RelX N G w0 v0 (· < n) (· < n) f l a w γ v ℓ) (hd:∀ k,o.dst=some k→k<N):Zjb C.P o a w fun x w'=>∃ f' l' n',K f' l' n'=some r∧n≤n'∧Old n f l f' l'∧Rel N G w0 v0 (· < n') f' l' (a.put o.dst x) w':=by
 obtain ⟨d,op,ty,pos,aft,gd⟩:=o;unfold ZHi at hi;split at hi
 ·rename_i c hop;have hop:op = .call c:=hop;subst hop;obtain ⟨callee,args,ats⟩:=c;split at hi
  ·rename_i x hx;have hx:callee = .value x:=hx;subst hx;split at hi
   ·rename_i g' cap hg;split at hi
    ·split at hi
     ·rename_i ags' has
      cases hi
      unfold inl1 at h
      cases d with
      | none=>cases h
      | some d =>
       obtain ⟨q1,q2⟩:=Zim hr0 hg;obtain ⟨cs,⟨vs,q3,rfl⟩,q4⟩:=q1;have q4:a.eval x = .func (.func g) #[] vs.toArray:=q4;obtain ⟨q5,q6⟩:=ZDr hr0 has;obtain ⟨q7,q8⟩:=Zep q5 q3 q6 q2;have hlt:∀ k,k<n→k<n+1:=fun k h=>by omega
       let G':V→Value→Prop:=fun x y=>G x y ∨ ∃ t e,lkE f t=some e∧x=e.x∧y=a.tmps.getD t undef
       have hrG:RelX N G' w0 v0 (· < n+1) (· < n+1) [] l a w γ v ℓ:=by
        have hm:=hr.mono hlt hlt;refine ⟨hm.st,fun t e he=>(by cases he),hm.lr,hm.nd,fun t e he=>(by cases he),hm.ul,fun x y hg=>?_⟩;rcases hg with hg | ⟨t,e,h1,rfl,rfl⟩
        ·exact hm.gh x y hg
        ·exact ⟨hm.fr t e h1,(hm.uf t e h1).1⟩
       obtain ⟨hen,hcalls⟩:=hcf h hrG q7 (V.ok.mono hlt q8);obtain ⟨σ,hσ,hev⟩:=hr0.st.evs (x :: args.toList);have hfx:=hev x (by simp);rw [q4] at hfx;have hargs:args.toList.map (ev σ)=(args.toList.map a.eval).map some:=by
        rw [List.map_map];exact List.map_congr_left fun y hy=>hev y (by simp [hy])
       have hrun:=Z4t (d:=some d) (ty:=ty) (pos:=pos) (aft:=aft) (g:=gd) (ats:=ats) hσ _ _ hen hfx hargs;refine ZGc hrun (Calls.mono hcalls fun e w' ⟨y,c,l',n',γ',v',ℓ',e1,e2,e3,e4,e5,e6,e7⟩=>⟨y,e1,_,l',n',e2,by omega,((e4 f).mono (by omega)).trans (Old.put (Nat.le_refl n)) (Nat.le_refl n),γ',v',ℓ',?_⟩);have hr2:RelX N G w0 v0 (· < n') (· < n') f l' a w' γ' v' ℓ':=by
        refine ⟨e5.st,fun t e he=>(e5.gh _ _ (.inr ⟨t,e,he,rfl,rfl⟩)).1,e5.lr,e5.nd,fun t e he=>⟨(e5.gh _ _ (.inr ⟨t,e,he,rfl,rfl⟩)).2,?_⟩,e5.ul,fun x y hg=>e5.gh x y (.inl hg)⟩;have:=(hr.uf t e he).2;show e.st<n';have:e.st<n:=this;omega
       exact hr2.put (hd d rfl) e6 e7 (show n<n' by omega)
     ·cases hi
    ·cases hi
   ·cases hi
  ·cases hi
 ·cases hi
theorem inlG_ok {C:Cf} {cf:CallF} (hcf:Zbg C cf) {α:Type} {r:α} {ops:Array Oper} {o:Oper} {rest:List Oper} {g:FuncId} {ags:V} {f:Fr} {l:Lo} {n:Nat} {K:Fr→Lo→Nat→Option α} {Q:Exit→Act→World→Prop} {a:Act} {w:World} (hi:ZHi C f o=some (g,ags)) (h:inlG cf ops.toList o g ags f l n K=some r)
  (hr:Rel N G w0 v0 (· < n) f l a w) (hds:∀ o ∈ ops.toList,∀ k,o.dst=some k→k<N) (hd:∀ k,o.dst=some k→k<N) (hQ:ZOd N G w0 v0 n f l (fun f l n=>K f l n=some r) fun a w=>wpList C.P ops Q rest a w):wpList C.P ops Q (o :: rest) a w:=by
 obtain ⟨γ,v,ℓ,hr⟩:=hr;have yes:∀ {f1:Fr},Old n f l f1 l→RelX N G w0 v0 (· < n) (· < n) f1 l a w γ v ℓ→Region.wanted o (yielded ops a.tmps)=true→inl1 cf o g ags f1 l n K=some r→wpList C.P ops Q (o :: rest) a w:=fun ho hr1 hw h =>
  Znc hw (ZEl (inl1_ok hcf hi h hr hr1 hd) fun x w' ⟨f',l',n',e1,e2,e3,e4⟩=>hQ f' l' n' _ w' e1 e2 (ho.trans e3 (Nat.le_refl n)) e4)
 have no:∀ {f1:Fr},Old n f l f1 l→RelX N G w0 v0 (· < n) (· < n) f1 l a w γ v ℓ→Region.wanted o (yielded ops a.tmps)=false→Zyj o f1 l n K=some r→wpList C.P ops Q (o :: rest) a w:=fun ho hr1 hw h=>by
  have h1:=Zth (Nat.le_refl n) Old.refl hr1.nd (Zag h);obtain ⟨f',l',⟨q1,q2⟩,q3⟩:=Z8i (X:=(· < n+1)) (hr1.mono (fun _ h=>h) fun k h=>(show k<n+1 by have:k<n:=h;omega)) (fun k h=>(show k<n+1 by have:k<n:=h;omega)) (Nat.lt_succ_self n) hd h1;unfold wpList;rw [if_neg (by rw [hw];decide)];exact hQ f' l' _ _ w q1 (by omega) (ho.trans q2 (Nat.le_refl n)) q3
 unfold inlG at h;split at h
 ·rename_i hg;exact yes Old.refl hr (ZVb hg) h
 ·rename_i j want hg;split at h
  ·rename_i q hq;split at h
   ·rename_i t ht;have htN:t<N:=hds q (List.mem_of_getElem? hq) t ht;have hgd:(ops[j]?).bind (·.dst)=some t:=by rw [← Array.getElem?_toList,hq];exact ht
    obtain ⟨σ,hσ,hev⟩:=hr.st.evs [.tmp t];have hl:look σ t=some (a.tmps.getD t undef):=hev (.tmp t) (by simp);split at h
    ·rename_i ek s b he;have hk:ek=t:=(Zq he).2;subst hk;have h2:a.tmps.getD ek undef = .bool b:=Z3e (hr.fr ek _ he);rw [h2] at hl;have hdup:=RelX.dup hr he;have hold:=Old.dup (m:=n) (l:=l) he
     cases want <;> cases b
     ·exact yes hold hdup (Z4e hσ hg hgd hl htN) h
     ·exact no hold hdup (Zfh hσ hg hgd hl htN) h
     ·exact no hold hdup (Zfh hσ hg hgd hl htN) h
     ·exact yes hold hdup (Z4e hσ hg hgd hl htN) h
    ·rename_i ek s he;have hk:ek=t:=(Zq he).2;subst hk;obtain ⟨cs,h1,h2⟩:=hr.fr ek _ he;have h1:cs=[undef]:=h1;subst h1;have h2:a.tmps.getD ek undef=undef:=h2;rw [h2] at hl;exact no Old.refl hr (ZXd hσ hg hgd hl htN) h
    ·cases h
   ·cases h
  ·cases h
theorem ZDk {C:Cf} (hC:CfOK C) {cf:CallF} (hcf:Zbg C cf) {α:Type} {r:α} {ops:Array Oper} {Q:Exit→Act→World→Prop} (hds:∀ o ∈ ops.toList,∀ k,o.dst=some k→k<N) {K:Fr→Lo→Nat→Option α}:∀ {os:List Oper} {f:Fr} {l:Lo} {n:Nat} {a:Act} {w:World},iops C cf ops.toList os f l n K=some r→(∀ o ∈ os,o ∈ ops.toList) →
  Rel N G w0 v0 (· < n) f l a w→ZOd N G w0 v0 n f l (fun f l n=>K f l n=some r) (Q .normal)→wpList C.P ops Q os a w
 | [],f,l,n,a,w,h,_,hr,hQ=>hQ f l n a w h (Nat.le_refl n) Old.refl hr
 | o :: os,f,l,n,a,w,h,hos,hr,hQ=>by
  have hd:=hds o (hos o (by simp))
  simp only [iops] at h
  split at h
  ·obtain ⟨γ,v,ℓ,hr⟩:=hr
   have h1:=Zth (Nat.le_refl n) Old.refl hr.nd (Zag h)
   refine (Z1k hC (X:=(· < n+1)) (hr.mono (fun _ h=>h) fun k h=>(show k<n+1 by have:k<n:=h;omega)) (fun k h=>(show k<n+1 by have:k<n:=h;omega)) (Nat.lt_succ_self n) (Nat.lt_irrefl n) hds hd h1).list fun f' l' a' w' ⟨q1,q2⟩ q3=>?_
   exact ZDk hC hcf hds q1 (fun o ho=>hos o (by simp [ho])) q3 (hQ.step (by omega) q2)
  ·rename_i g ags hi
   refine inlG_ok hcf hi h hr hds hd fun f' l' n' a' w' q1 q2 q3 q4=>?_
   exact ZDk hC hcf hds q1 (fun o ho=>hos o (by simp [ho])) q4 (hQ.step q2 q3)
theorem Z5w {C:Cf} (hC:CfOK C) {cf:CallF} (hcf:Zbg C cf) {α:Type} {r:α} {id:Nat} {ops:Array Oper} {o:Oper} {f:Fr} {l:Lo} {n:Nat} {K:Fr→Lo→Nat→Option α} {Q:Exit→Act→World→Prop} {a:Act} {w:World} (ho:Zhj ops.toList=some o) (hm:C.P.follows .mixedOrders=true) (hb:Zhe 0 ops.toList=true) (hds:∀ o ∈ ops.toList,∀ k,o.dst=some k→k<N)
  (h:(ZNf C ops.toList ops.toList.dropLast f l n fun f l n ps=>match Zae [] (ZWa ops.toList.dropLast []) ps with
   | true=>iops C cf ops.toList [o] f l n K
   | false=>none)=some r) (hr:Rel N G w0 v0 (· < n) f l a w) (hQ:ZOd N G w0 v0 n f l (fun f l n=>K f l n=some r) (Q .normal)):(Code.region id ops true).wp C.P Q a w:=by
 obtain ⟨Ts,h1,h2,h3,h4⟩:=ZEn h;obtain ⟨he,hg,hanc⟩:=Zdw ho;split at h4
 ·rename_i hch;have hn:(l.map En.k).Nodup:=by obtain ⟨_,_,_,hr⟩:=hr;exact hr.nd
  have hsz:ops.size=ops.toList.dropLast.length+1:=by
   have:=congrArg List.length he;simp at this ⊢;omega
  have hin:∀ o ∈ ops.toList.dropLast,o ∈ ops.toList:=fun o ho=>by rw [← he];exact List.mem_append_left _ ho
  have hol:o ∈ ops.toList:=by rw [← he];simp
  refine wp_region_any hm ?_;have hz:∀ j,(Array.replicate ops.size false).getD j false=false:=fun j=>getD_replicate_false _ _;have hl:left (Array.replicate ops.size false)=ops.toList.dropLast.length+1:=by rw [← hsz];simp [left]
  have key:=Zkv (G:=G) (w0:=w0) (v0:=v0) (Q:=Q) hC (Ts:=Ts) he hg hanc hb hds h1 hn h2 h3 hch (fun a' w' hr'=>?_) ops.toList.dropLast.length (Array.replicate ops.size false) a w.drew hl ?_ ⟨by simp,fun j o _ hj=>?_,f,l,?_,fun t=>?_,fun t=>?_⟩
  ·rw [← hsz] at key;exact key
  ·have hold:=Zzm (Nat.le_refl n) h1 h2 hn h3;exact ZDk hC hcf hds h4 (fun o' ho'=>by rcases List.mem_singleton.1 ho' with rfl;exact hol) hr' (hQ.step (by omega) hold)
  ·rw [ZCb (by rw [Array.size_replicate];omega)];exact hz _
  ·rw [hz] at hj;cases hj
  ·obtain ⟨γ,v,ℓ,hr⟩:=hr.draw;exact ⟨γ,v,ℓ,hr.mono (fun _ h=>.inl h) fun _ h=>.inl h⟩
  ·exact (Zve fun j _ _ hs=>by rw [show sel _ _=false from hz _] at hs;cases hs).symm
  ·exact (Zve fun j _ _ hs=>by rw [show sel _ _=false from hz _] at hs;cases hs).symm
 ·cases h4
theorem Zyi {K:Nat}:∀ {os:List Oper},ZXg K os=true→∀ o ∈ os,∀ k,o.dst=some k→k<K
 | [],_,_,h,_,_=>by cases h
 | o :: os,h,o',ho',k,hk=>by
  simp only [ZXg] at h
  rcases List.mem_cons.1 ho' with rfl | ho'
  ·rw [hk] at h
   simp only at h
   split at h
   ·rename_i hb;exact Nat.le_of_ble_eq_true hb
   ·cases h
  ·have h':ZXg K os=true:=by
    split at h
    ·split at h
     ·exact h
     ·cases h
    ·exact h
   exact Zyi h' o' ho' k hk
end
end Go.Eng
namespace Go.Eng
open Go.RowKit
theorem Ztg {x:V} {c:CT} {cs:List Value} (h:x.isAgg=c.isAgg):x.val cs=c.vl cs:=by
 unfold V.val CT.vl;rw [h]
 cases c.isAgg <;> rfl
theorem Zgl {v v':Zb} (h:v.le v'):∀ {c:CT} {m:Bool} {x:c.den} {cs:List Value} {es:List Loc},CR v c m x cs es→CR v' c m x cs es:=by
 intro c
 induction c with
 | dat t=>intro m x cs es k;cases m <;> first | exact ⟨Rep.mono _ h k.1,k.2⟩ | exact k
 | own ty t =>
  intro m x cs es k;cases m
  ·obtain ⟨ob,cap,d,h1,h2,h3⟩:=k;exact ⟨ob,cap,d,h1,ZN h h2,h3⟩
  ·exact k
 | mat ty ty2 t =>
  intro m x cs es k;cases m
  ·obtain ⟨ob,cap,rows,es2,h1,h2,h3⟩:=k;exact ⟨ob,cap,rows,es2,h1,Zuc h h2,h3⟩
  ·exact k
 | nl=>intro m x cs es k;cases m <;> exact k
 | one a ih =>
  intro m x cs es k;cases m
  ·exact ih (m:=false) k
  ·obtain ⟨c,h1,h2⟩:=k;exact ⟨c,h1,ih h2⟩
 | cons a b ia ib =>
  intro m x cs es k;cases m
  ·obtain ⟨c1,c2,e1,e2,h1,h2,h3,h4⟩:=k;exact ⟨c1,c2,e1,e2,h1,h2,ia h3,ib h4⟩
  ·obtain ⟨c1,c2,e1,e2,h1,h2,h3,h4⟩:=k;exact ⟨c1,c2,e1,e2,h1,h2,ia h3,ib h4⟩
 | agg c ih=>intro m x cs es k;cases m <;> first | exact ih (m:=false) k | exact k
 | box ty c ih =>
  intro m x cs es k;cases m
  ·obtain ⟨b,c1,e1,h1,h2,h3,h4⟩:=k;exact ⟨b,c1,e1,h1,ih h2,h3,h4⟩
  ·exact k
theorem ZDd {α:Type} {ex es r:List α}:(ex++(es++r)).Perm (es++(ex++r)):=by
 rw [← List.append_assoc,← List.append_assoc];exact List.Perm.append_right _ List.perm_append_comm
section
variable {N:Nat} {G:V→Value→Prop} {w0:Base} {v0:Zb} {U X:Nat→Prop} {f:Fr} {a:Act} {w:World} {n:Nat}
theorem ZGw {ρ:Type} {g:Nat} {t:T} {x:V} {k:t.den→Ev ρ} {l:Lo} {Post:ρ→Fr→Lo→Prop} {v:Zb} {γ:Nat→Gh} {m:Bool} {cs:List Value} (h:Zk n (conv g t x k) f l Post) (hr:RR v γ l m x cs):m=false:=by
 cases m with
 | false=>rfl
 | true =>
  cases g with
  | zero=>exact h.elim
  | succ g=>cases x <;> first | exact hr.elim | (simp only [conv] at h;exact h.elim)
theorem ZVe {ρ:Type} (hn:¬ U n) (hX:X n):∀ (g:Nat) {c:CT} {x:V} {K:c.den→Ev ρ} {l:Lo} {Post:ρ→Fr→Lo→Prop} {γ:Nat→Gh} {v:Zb} {ℓ ex:List Loc} {m:Bool} {cs:List Value},
  Zk n (Z6 g c x K) f l Post→RelX N G w0 v0 U X f l a w γ v ℓ→St N w0 v0 [] (ex++ℓ) v a w→x.ok U→RR v γ l m x cs →
  ∃ z l' γ' v' ℓ' es,Zk n (K z) f l' Post∧RelX N G w0 v0 U X f l' a w γ' v' ℓ'∧St N w0 v0 [] (es++(ex++ℓ')) v' a w∧Le U v γ l v' γ' l'∧CR v' c m z cs es∧x.isAgg=c.isAgg
 | 0,_,_,_,_,_,_,_,_,_,_,_,h,_,_,_,_=>h.elim
 | g+1,c,x,K,l,Post,γ,v,ℓ,ex,m,cs,h,hr,hex,hk,hx=>by
  obtain ⟨E,hE,_⟩:=hr.lr
  have rfl':Le U v γ l v γ l:=Le.refl hE (Zb.le_refl _)
  cases c with
  | dat t =>
   simp only [Z6] at h
   have hm:=ZGw h hx
   subst hm
   have hag:=ZCf FU h
   obtain ⟨y,l1,γ1,v1,ℓ1,k1,k2,k3,k4,k5⟩:=Z1a hn hX FU h hr hex hk
   exact ⟨y,l1,γ1,v1,ℓ1,[],k1,k2,k3,k4,⟨k5 _ hx,rfl⟩,hag⟩
  | own ty t =>
   cases x with
   | own u =>
    cases m with
    | true=>exact hx.elim
    | false =>
    simp only [Z6] at h
    obtain ⟨e,he,h⟩:=h
    obtain ⟨kk,st,L⟩:=e
    have hkk:kk=u:=(Zq he).2
    subst hkk
    obtain ⟨y,rfl,_,hy⟩:=hx
    have hy:=hy _ he
    obtain ⟨es,E',h1,_,_,h3,h4⟩:=hr.del he
    cases L with
    | own ty' t' xs fz =>
     cases fz with
     | true=>exact h.elim
     | false =>
      simp only at h
      split at h
      ·rename_i ys hty hcast
       have hty:=Nat.eq_of_beq_eq_true hty
       subst hty
       obtain ⟨c3,c4⟩:=Z0 hcast
       cases c3;cases c4
       obtain ⟨ob,cap,d,g1,g2,rfl⟩:=h1
       have g1:γ kk = .own ob cap:=g1
       obtain ⟨ob',cap',g3,g4⟩:=hy
       rw [g1] at g3;cases g3
       exact ⟨_,_,_,_,_,_,h,h4,hex.perm ((List.Perm.append_left ex h3).trans ZDd),Le.era hr kk,⟨ob,cap,d,by rw [g4],g2,rfl⟩,rfl⟩
      ·exact h.elim
    | box _ _=>exact h.elim
    | mid _ _ _ _ _ _=>exact h.elim
    | mat _ _ _ _ _=>exact h.elim
   | nilS =>
    cases m with
    | true=>exact hx.elim
    | false =>
    simp only [Z6] at h
    have hx:cs=[.slice none 0 0]:=hx
    subst hx
    exact ⟨_,l,γ,v,ℓ,[.own none ty t.n 0 0 []],h,hr,hex.nilLoc ty t.n,rfl',⟨none,0,[],rfl,rfl,rfl⟩,rfl⟩
   | _=>simp only [Z6] at h;exact h.elim
  | mat ty ty2 t =>
   cases x with
   | own u =>
    cases m with
    | true=>exact hx.elim
    | false =>
    simp only [Z6] at h
    obtain ⟨e,he,h⟩:=h
    obtain ⟨kk,st,L⟩:=e
    have hkk:kk=u:=(Zq he).2
    subst hkk
    obtain ⟨y,rfl,_,hy⟩:=hx
    have hy:=hy _ he
    obtain ⟨es,E',h1,_,_,h3,h4⟩:=hr.del he
    cases L with
    | mat ty' ty2' t' mm hv =>
     simp only at h
     split at h
     ·rename_i m' hty hty2 hcast
      have hty:=Nat.eq_of_beq_eq_true hty
      have hty2:=Nat.eq_of_beq_eq_true hty2
      subst hty hty2
      obtain ⟨c3,c4⟩:=Z0 hcast
      cases c3;cases c4
      obtain ⟨ob,cap,rows,es2,g1,g2,rfl⟩:=h1
      have g1:γ kk = .mat ob cap rows:=g1
      obtain ⟨ob',cap',rows',g3,g4⟩:=hy
      rw [g1] at g3;cases g3
      exact ⟨_,_,_,_,_,_,h,h4,hex.perm ((List.Perm.append_left ex h3).trans ZDd),Le.era hr kk,⟨ob,cap,rows,es2,by rw [g4],g2,rfl⟩,rfl⟩
     ·exact h.elim
    | box _ _=>exact h.elim
    | mid _ _ _ _ _ _=>exact h.elim
    | own _ _ _ _=>exact h.elim
   | nilS =>
    cases m with
    | true=>exact hx.elim
    | false =>
    simp only [Z6] at h
    have hx:cs=[.slice none 0 0]:=hx
    subst hx
    exact ⟨_,l,γ,v,ℓ,[.own none ty 1 0 0 []],h,hr,hex.nilLoc ty 1,rfl',⟨none,0,[],[],rfl,rfl,rfl⟩,rfl⟩
   | _=>simp only [Z6] at h;exact h.elim
  | nl =>
   cases x with
   | nl =>
    simp only [Z6] at h
    have hx:cs=[]:=by cases m <;> exact hx
    exact ⟨_,l,γ,v,ℓ,[],h,hr,hex,rfl',(by cases m <;> exact ⟨hx,rfl⟩),rfl⟩
   | _=>simp only [Z6] at h;exact h.elim
  | one c =>
   cases x with
   | cons x1 x2 =>
    cases x2 with
    | nl =>
     simp only [Z6] at h
     cases m with
     | false =>
      obtain ⟨c1,c2,rfl,h1,h2⟩:=hx
      have h2:c2=[]:=h2
      subst h2
      obtain ⟨z,l1,γ1,v1,ℓ1,es,k1,k2,k3,k4,k5,k6⟩:=ZVe hn hX g h hr hex hk.1 h1
      exact ⟨z,l1,γ1,v1,ℓ1,es,k1,k2,k3,k4,(by rw [List.append_nil];exact k5),rfl⟩
     | true =>
      obtain ⟨c1,xs,rfl,h1,h2⟩:=hx
      have h2:xs=[]:=h2
      subst h2
      obtain ⟨z,l1,γ1,v1,ℓ1,es,k1,k2,k3,k4,k5,k6⟩:=ZVe hn hX g h hr hex hk.1 h1
      exact ⟨z,l1,γ1,v1,ℓ1,es,k1,k2,k3,k4,⟨c1,(by rw [Ztg k6]),k5⟩,rfl⟩
    | _=>simp only [Z6] at h;exact h.elim
   | _=>simp only [Z6] at h;exact h.elim
  | cons c d =>
   cases x with
   | cons x1 x2 =>
    simp only [Z6] at h
    have step:∀ {c1:List Value} {m2:Bool} {c2:List Value},RR v γ l false x1 c1→RR v γ l m2 x2 c2→∃ z l' γ' v' ℓ' e1 e2,Zk n (K z) f l' Post∧RelX N G w0 v0 U X f l' a w γ' v' ℓ'∧St N w0 v0 [] ((e1++e2)++(ex++ℓ')) v' a w∧Le U v γ l v' γ' l'∧CR v' c false z.1 c1 e1∧CR v' d m2 z.2 c2 e2∧x1.isAgg=c.isAgg:=by
     intro c1 m2 c2 h1 h2;obtain ⟨z1,l1,γ1,v1,ℓ1,e1,k1,k2,k3,k4,k5,k6⟩:=ZVe hn hX g h hr hex hk.1 h1;obtain ⟨z2,l2,γ2,v2,ℓ2,e2,q1,q2,q3,q4,q5,q6⟩:=ZVe hn hX g (ex:=e1++ex) k1 k2 (by rw [List.append_assoc];exact k3) hk.2 (Zcb k4 hk.2 h2);refine ⟨(z1,z2),l2,γ2,v2,ℓ2,e1,e2,q1,q2,q3.perm ?_,k4.trans q4,Zgl q4.v k5,q5,k6⟩;rw [List.append_assoc,List.append_assoc];exact ZDd
    cases m with
    | false =>
     obtain ⟨c1,c2,rfl,h1,h2⟩:=hx;obtain ⟨z,l1,γ1,v1,ℓ1,e1,e2,k1,k2,k3,k4,k5,k6,k7⟩:=step h1 h2;exact ⟨z,l1,γ1,v1,ℓ1,_,k1,k2,k3,k4,⟨c1,c2,e1,e2,rfl,rfl,k5,k6⟩,rfl⟩
    | true =>
     obtain ⟨c1,xs,rfl,h1,h2⟩:=hx;obtain ⟨z,l1,γ1,v1,ℓ1,e1,e2,k1,k2,k3,k4,k5,k6,k7⟩:=step h1 h2;exact ⟨z,l1,γ1,v1,ℓ1,_,k1,k2,k3,k4,⟨c1,xs,e1,e2,by rw [Ztg k7],rfl,k5,k6⟩,rfl⟩
   | _=>simp only [Z6] at h;exact h.elim
  | agg c =>
   cases x with
   | agg x1 =>
    cases m with
    | true=>exact hx.elim
    | false =>
    simp only [Z6] at h;obtain ⟨z,l1,γ1,v1,ℓ1,es,k1,k2,k3,k4,k5,k6⟩:=ZVe hn hX g (x:=x1) (m:=false) h hr hex hk hx;exact ⟨z,l1,γ1,v1,ℓ1,es,k1,k2,k3,k4,k5,rfl⟩
   | _=>simp only [Z6] at h;exact h.elim
  | box ty c =>
   cases x with
   | ptr u off =>
    cases off with
    | succ k=>simp only [Z6] at h;exact h.elim
    | zero =>
    cases m with
    | true=>exact hx.elim
    | false =>
    simp only [Z6] at h;obtain ⟨e,he,h⟩:=h;obtain ⟨kk,st,L⟩:=e;obtain ⟨hm,hkk⟩:=Zq he;have hkk:kk=u:=hkk;subst hkk;obtain ⟨y,rfl,_,hy⟩:=hx;have hy:=hy _ he;obtain ⟨es,E',h1,_,_,h3,h4⟩:=hr.del he
    cases L with
    | box ty' x1 =>
     simp only at h;split at h
     ·rename_i hty;have hty:=Nat.eq_of_beq_eq_true hty;subst hty;obtain ⟨b,c1,g1,g2,g3,rfl⟩:=h1;have g1:γ kk = .box b:=g1;obtain ⟨b',g4,g5⟩:=hy;rw [g1] at g4;cases g4;have hk1:x1.ok U:=(hr.ul _ hm).2.2;obtain ⟨z,l1,γ1,v1,ℓ1,e1,k1,k2,k3,k4,k5,k6⟩:=ZVe hn hX g (ex:=.box b ty c1 :: ex) h h4 (hex.perm ((List.Perm.append_left ex h3).trans ZDd)) hk1 (Zcb (Le.era hr kk) hk1 g2);refine ⟨z,l1,γ1,v1,ℓ1,.box b ty c1 :: e1,k1,k2,k3.perm ?_,(Le.era hr kk).trans k4,⟨b,c1,e1,by rw [g5],k5,g3,rfl⟩,rfl⟩;exact List.perm_middle
     ·exact h.elim
    | own _ _ _ _=>exact h.elim
    | mid _ _ _ _ _ _=>exact h.elim
    | mat _ _ _ _ _=>exact h.elim
   | _=>simp only [Z6] at h;exact h.elim
theorem ZMw {ρ:Type} {g:Nat} {c:CT} {q:V} {K:c.den→Ev ρ} {l:Lo} {Post:ρ→Fr→Lo→Prop} (h:Zk n (Z6 g c (.tup q) K) f l Post):False:=by
 cases g with
 | zero=>exact h
 | succ g =>
  cases c with
  | dat t =>
   simp only [Z6] at h;have:∀ (g:Nat),Zk n (conv g t (.tup q) K) f l Post→False:=fun g h=>by cases g <;> exact h
   exact this _ h
  | _=>simp only [Z6] at h;exact h
end
theorem F2.append {α β:Type} {R:α→β→Prop}:∀ {l l':List α} {m m':List β},F2 R l m→F2 R l' m'→F2 R (l++l') (m++m')
 | [],_,[],_,_,k=>k
 | _ :: _,_,_ :: _,_,h,k=>⟨h.1,F2.append h.2 k⟩
 | [],_,_ :: _,_,h,_=>h.elim
 | _ :: _,_,[],_,h,_=>h.elim
theorem Zel {la lb:Lo} {γa γb:Nat→Gh} {γ:Nat→Gh} {l:Lo} (h:∀ e ∈ la++lb,γ e.k=(if e.k ∈ la.map En.k then γa e.k else γb e.k)∧lkE l e.k=some e):∀ e ∈ la,γ e.k=γa e.k∧lkE l e.k=some e:=fun e he=>by
 obtain ⟨h1,h2⟩:=h e (List.mem_append_left _ he)
 rw [if_pos (List.mem_map.2 ⟨e,he,rfl⟩)] at h1
 exact ⟨h1,h2⟩
theorem Zln {la lb:Lo} {γa γb:Nat→Gh} {γ:Nat→Gh} {l:Lo} (hd:∀ e ∈ lb,e.k ∉ la.map En.k) (h:∀ e ∈ la++lb,γ e.k=(if e.k ∈ la.map En.k then γa e.k else γb e.k)∧lkE l e.k=some e):∀ e ∈ lb,γ e.k=γb e.k∧lkE l e.k=some e:=fun e he=>by
 obtain ⟨h1,h2⟩:=h e (List.mem_append_right _ he)
 rw [if_neg (hd e he)] at h1
 exact ⟨h1,h2⟩
theorem ZOi {la lb:Lo} (ha:(la.map En.k).Nodup) (hb:(lb.map En.k).Nodup) (hd:∀ e ∈ lb,e.k ∉ la.map En.k):((la++lb).map En.k).Nodup:=by
 rw [List.map_append];refine List.nodup_append.2 ⟨ha,hb,fun x hx y hy e=>?_⟩;subst e;obtain ⟨e,he,rfl⟩:=List.mem_map.1 hy;exact hd e he hx
theorem ZTr {v:Zb}:∀ (c:CT) {m:Bool} {z:c.den} {cs:List Value} {es:List Loc} (n:Nat) {x:V} {l2:Lo} {n2:Nat},CR v c m z cs es→Zi c z n=(x,l2,n2) →
  n≤n2∧(∀ e ∈ l2,n≤e.k∧e.k<n2∧n≤e.st∧e.st<n2∧e.x.ok (· < n2) (· < n2))∧(l2.map En.k).Nodup∧x.ok (· < n2)∧x.isAgg=c.isAgg ∧
  ∃ γ0:Nat→Gh,∀ (γ:Nat→Gh) (l:Lo),(∀ e ∈ l2,γ e.k=γ0 e.k∧lkE l e.k=some e)→RR v γ l m x cs∧∃ E,F2 (Zta v γ l) l2 E∧es.Perm E.flatten:=by
 intro c
 induction c with
 | dat t =>
  intro m z cs es n x l2 n2 h hi
  cases m with
  | true=>exact h.elim
  | false =>
  cases hi
  obtain ⟨h1,rfl⟩:=h;exact ⟨Nat.le_refl _,fun e he=>(by cases he),List.nodup_nil,trivial,rfl,fun _=>.box 0,fun γ l _=>⟨h1,[],trivial,List.Perm.refl _⟩⟩
 | own ty t =>
  intro m z cs es n x l2 n2 h hi
  cases m with
  | true=>exact h.elim
  | false =>
  cases hi
  obtain ⟨ob,cap,d,rfl,h2,rfl⟩:=h;refine ⟨Nat.le_succ _,fun e he=>?_,?_,Nat.lt_succ_self n,rfl,fun _=>.own ob cap,fun γ l hl=>?_⟩
  ·rcases List.mem_singleton.1 he with rfl;exact ⟨Nat.le_refl _,Nat.lt_succ_self _,Nat.le_refl _,Nat.lt_succ_self _,trivial⟩
  ·exact List.nodup_cons.2 ⟨by simp,List.nodup_nil⟩
  ·obtain ⟨hg,hlk⟩:=hl _ (List.mem_singleton.2 rfl);refine ⟨⟨_,rfl,rfl,fun e he=>?_⟩,[_],⟨⟨ob,cap,d,hg,h2,rfl⟩,trivial⟩,List.Perm.refl _⟩;rw [show lkE l n=_ from hlk] at he;cases he;exact ⟨ob,cap,hg,rfl⟩
 | mat ty ty2 t =>
  intro m z cs es n x l2 n2 h hi
  cases m with
  | true=>exact h.elim
  | false =>
  cases hi
  obtain ⟨ob,cap,rows,es2,rfl,h2,rfl⟩:=h;refine ⟨Nat.le_succ _,fun e he=>?_,?_,Nat.lt_succ_self n,rfl,fun _=>.mat ob cap rows,fun γ l hl=>?_⟩
  ·rcases List.mem_singleton.1 he with rfl;exact ⟨Nat.le_refl _,Nat.lt_succ_self _,Nat.le_refl _,Nat.lt_succ_self _,Nat.lt_succ_self n⟩
  ·exact List.nodup_cons.2 ⟨by simp,List.nodup_nil⟩
  ·obtain ⟨hg,hlk⟩:=hl _ (List.mem_singleton.2 rfl);refine ⟨⟨_,rfl,rfl,fun e he=>?_⟩,[_],⟨⟨ob,cap,rows,es2,hg,h2,rfl⟩,trivial⟩,by simp⟩;rw [show lkE l n=_ from hlk] at he;cases he;exact ⟨ob,cap,rows,hg,rfl⟩
 | nl =>
  intro m z cs es n x l2 n2 h hi
  cases hi
  have h:cs=[]∧es=[]:=by cases m <;> exact h
  obtain ⟨rfl,rfl⟩:=h;exact ⟨Nat.le_refl _,fun e he=>(by cases he),List.nodup_nil,trivial,rfl,fun _=>.box 0,fun γ l _=>⟨by cases m <;> rfl,[],trivial,List.Perm.refl _⟩⟩
 | one c ih =>
  intro m z cs es n x l2 n2 h hi;have hi:((.cons (Zi c z n).1 .nl:V),(Zi c z n).2.1,(Zi c z n).2.2)=(x,l2,n2):=hi
  cases hi
  cases m with
  | false =>
   obtain ⟨k1,k2,k3,k4,k5,γ0,k6⟩:=ih n (x:=(Zi c z n).1) (l2:=(Zi c z n).2.1) (n2:=(Zi c z n).2.2) h rfl;exact ⟨k1,k2,k3,⟨k4,trivial⟩,rfl,γ0,fun γ l hl=>⟨⟨cs,[],by simp,(k6 γ l hl).1,rfl⟩,(k6 γ l hl).2⟩⟩
  | true =>
   obtain ⟨c1,rfl,h⟩:=h;obtain ⟨k1,k2,k3,k4,k5,γ0,k6⟩:=ih n (x:=(Zi c z n).1) (l2:=(Zi c z n).2.1) (n2:=(Zi c z n).2.2) h rfl;exact ⟨k1,k2,k3,⟨k4,trivial⟩,rfl,γ0,fun γ l hl=>⟨⟨c1,[],by rw [Ztg k5],(k6 γ l hl).1,rfl⟩,(k6 γ l hl).2⟩⟩
 | cons c d ia ib =>
  intro m z cs es n x l2 n2 h hi;have hi:((.cons (Zi c z.1 n).1 (Zi d z.2 (Zi c z.1 n).2.2).1:V),(Zi c z.1 n).2.1++(Zi d z.2 (Zi c z.1 n).2.2).2.1,(Zi d z.2 (Zi c z.1 n).2.2).2.2)=(x,l2,n2):=hi
  cases hi
  have step:∀ {c1 c2:List Value} {m2:Bool} {e1 e2:List Loc},CR v c false z.1 c1 e1→CR v d m2 z.2 c2 e2→es=e1++e2→n≤(Zi d z.2 (Zi c z.1 n).2.2).2.2∧(∀ e ∈ (Zi c z.1 n).2.1++(Zi d z.2 (Zi c z.1 n).2.2).2.1,n≤e.k∧e.k<(Zi d z.2 (Zi c z.1 n).2.2).2.2∧n≤e.st∧e.st<(Zi d z.2 (Zi c z.1 n).2.2).2.2∧e.x.ok (· < (Zi d z.2 (Zi c z.1 n).2.2).2.2) (· < (Zi d z.2 (Zi c z.1 n).2.2).2.2))∧(((Zi c z.1 n).2.1++(Zi d z.2 (Zi c z.1 n).2.2).2.1).map En.k).Nodup∧((Zi c z.1 n).1.ok (· < (Zi d z.2 (Zi c z.1 n).2.2).2.2)∧(Zi d z.2 (Zi c z.1 n).2.2).1.ok (· < (Zi d z.2 (Zi c z.1 n).2.2).2.2))∧(Zi c z.1 n).1.isAgg=c.isAgg ∧
    ∃ γ0:Nat→Gh,∀ (γ:Nat→Gh) (l:Lo),(∀ e ∈ (Zi c z.1 n).2.1++(Zi d z.2 (Zi c z.1 n).2.2).2.1,γ e.k=γ0 e.k∧lkE l e.k=some e)→RR v γ l false (Zi c z.1 n).1 c1∧RR v γ l m2 (Zi d z.2 (Zi c z.1 n).2.2).1 c2∧∃ E,F2 (Zta v γ l) ((Zi c z.1 n).2.1++(Zi d z.2 (Zi c z.1 n).2.2).2.1) E∧es.Perm E.flatten:=by
   intro c1 c2 m2 e1 e2 h1 h2 he;obtain ⟨k1,k2,k3,k4,k5,γa,k6⟩:=ia n (x:=(Zi c z.1 n).1) (l2:=(Zi c z.1 n).2.1) (n2:=(Zi c z.1 n).2.2) h1 rfl;obtain ⟨q1,q2,q3,q4,q5,γb,q6⟩:=ib (Zi c z.1 n).2.2 (x:=(Zi d z.2 (Zi c z.1 n).2.2).1) (l2:=(Zi d z.2 (Zi c z.1 n).2.2).2.1) (n2:=(Zi d z.2 (Zi c z.1 n).2.2).2.2) h2 rfl;have hd:∀ e ∈ (Zi d z.2 (Zi c z.1 n).2.2).2.1,e.k ∉ ((Zi c z.1 n).2.1).map En.k:=fun e he hm=>by
    obtain ⟨e',he',hk⟩:=List.mem_map.1 hm;have:=(k2 e' he').2.1;have:=(q2 e he).1;omega
   have up:∀ k,k<(Zi c z.1 n).2.2→k<(Zi d z.2 (Zi c z.1 n).2.2).2.2:=fun k hk=>Nat.lt_of_lt_of_le hk q1;refine ⟨Nat.le_trans k1 q1,fun e he=>?_,ZOi k3 q3 hd,⟨V.ok.mono up k4,q4⟩,k5,fun k=>if k ∈ ((Zi c z.1 n).2.1).map En.k then γa k else γb k,fun γ l hl=>⟨(k6 γ l (Zel hl)).1,(q6 γ l (Zln hd hl)).1,?_⟩⟩
   ·rcases List.mem_append.1 he with he | he
    ·obtain ⟨r1,r2,r3,r4,r5⟩:=k2 e he;exact ⟨r1,up _ r2,r3,up _ r4,LV.ok.mono up up r5⟩
    ·obtain ⟨r1,r2,r3,r4,r5⟩:=q2 e he;exact ⟨Nat.le_trans k1 r1,r2,Nat.le_trans k1 r3,r4,r5⟩
   ·obtain ⟨E1,g1,g2⟩:=(k6 γ l (Zel hl)).2;obtain ⟨E2,g3,g4⟩:=(q6 γ l (Zln hd hl)).2;exact ⟨E1++E2,g1.append g3,by rw [he,List.flatten_append];exact g2.append g4⟩
  cases m with
  | false =>
   obtain ⟨c1,c2,e1,e2,rfl,he,h1,h2⟩:=h;obtain ⟨k1,k2,k3,k4,k5,γ0,k6⟩:=step h1 h2 he;exact ⟨k1,k2,k3,k4,rfl,γ0,fun γ l hl=>⟨⟨c1,c2,rfl,(k6 γ l hl).1,(k6 γ l hl).2.1⟩,(k6 γ l hl).2.2⟩⟩
  | true =>
   obtain ⟨c1,c2,e1,e2,rfl,he,h1,h2⟩:=h;obtain ⟨k1,k2,k3,k4,k5,γ0,k6⟩:=step h1 h2 he;exact ⟨k1,k2,k3,k4,rfl,γ0,fun γ l hl=>⟨⟨c1,c2,by rw [Ztg k5],(k6 γ l hl).1,(k6 γ l hl).2.1⟩,(k6 γ l hl).2.2⟩⟩
 | agg c ih =>
  intro m z cs es n x l2 n2 h hi
  cases m with
  | true=>exact h.elim
  | false =>
  have hi:((.agg (Zi c z n).1:V),(Zi c z n).2.1,(Zi c z n).2.2)=(x,l2,n2):=hi
  cases hi
  obtain ⟨k1,k2,k3,k4,k5,γ0,k6⟩:=ih (m:=false) n (x:=(Zi c z n).1) (l2:=(Zi c z n).2.1) (n2:=(Zi c z n).2.2) h rfl;exact ⟨k1,k2,k3,k4,rfl,γ0,k6⟩
 | box ty c ih =>
  intro m z cs es n x l2 n2 h hi
  cases m with
  | true=>exact h.elim
  | false =>
  have hi:((.ptr n 0:V),(⟨n,n,.box ty (Zi c z (n+1)).1⟩ :: (Zi c z (n+1)).2.1:Lo),(Zi c z (n+1)).2.2)=(x,l2,n2):=hi
  cases hi
  obtain ⟨b,c1,e1,rfl,h2,h3,rfl⟩:=h;obtain ⟨k1,k2,k3,k4,k5,γ0,k6⟩:=ih (m:=false) (n+1) (x:=(Zi c z (n+1)).1) (l2:=(Zi c z (n+1)).2.1) (n2:=(Zi c z (n+1)).2.2) h2 rfl;have hd:∀ e ∈ (Zi c z (n+1)).2.1,e.k≠n:=fun e he hk=>by have:=(k2 e he).1;omega
  refine ⟨by omega,fun e he=>?_,List.nodup_cons.2 ⟨fun hm=>?_,k3⟩,(show n<_ by omega),rfl,fun k=>if k=n then .box b else γ0 k,fun γ l hl=>?_⟩
  ·rcases List.mem_cons.1 he with rfl | he
   ·exact ⟨Nat.le_refl _,(show n<_ by omega),Nat.le_refl _,(show n<_ by omega),k4⟩
   ·obtain ⟨r1,r2,r3,r4,r5⟩:=k2 e he;exact ⟨by omega,r2,by omega,r4,r5⟩
  ·obtain ⟨e,he,hk⟩:=List.mem_map.1 hm;exact hd e he hk
  ·obtain ⟨hg,hlk⟩:=hl _ List.mem_cons_self;have hg:γ n = .box b:=by rw [show γ n=_ from hg];exact if_pos rfl
   obtain ⟨q1,E,q2,q3⟩:=k6 γ l fun e he=>by
    obtain ⟨r1,r2⟩:=hl e (List.mem_cons_of_mem _ he);exact ⟨r1.trans (if_neg (hd e he)),r2⟩
   refine ⟨⟨_,rfl,rfl,fun e he=>?_⟩,[_] :: E,⟨⟨b,c1,hg,q1,h3,rfl⟩,q2⟩,by rw [List.flatten_cons];exact List.Perm.cons _ q3⟩;rw [show lkE l n=_ from hlk] at he;cases he;exact ⟨b,hg,rfl⟩
end Go.Eng
