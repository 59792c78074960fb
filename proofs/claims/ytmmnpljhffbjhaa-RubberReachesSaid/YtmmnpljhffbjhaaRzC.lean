/- Lemmas towards the statement: the engine of the walks, the functions' models, laws and walks, part 3. Conditions: as each states. -/
import Derived.Test.YtmmnpljhffbjhaaProg
import Derived.Test.YtmmnpljhffbjhaaRzB
set_option linter.all false
set_option maxRecDepth 100000
namespace Go.Eng
noncomputable def Zwf (l : (List (Rat × Rat))) (t : Rat) : Option (Rat × Int) :=
 bnd (Z8e l t) fun a =>
 ifb (decide (a < (0 : Int)))
 (some (((0 : Rat),(5 : Int))))
 (ifb (a == ((0 : Int)))
 (bnd (idx l ((0 : Int))) fun d =>
 some ((d.1,(0 : Int))))
 (bnd (chk .i64 (a - ((1 : Int)))) fun e =>
 bnd (idx l e) fun b =>
 bnd (bnd (ZEc t b.2) fun f =>
 bnd (idx l a) fun c =>
 bnd (ZBg ((b.1,b.2)) ((c.1,c.2))) fun g =>
 bnd (Z0c f g) fun h =>
 some h.1)
 (fun (i : Rat) =>
 (bnd (Zbc b.1 i) fun j =>
 some ((j,(0 : Int)))))))
noncomputable def ZEe (l : (List (Nat × Nat))) : Option ((List (Rat × Rat)) × Int) :=
 bnd (ifb (decide ((l.length : Int) < (2 : Int)))
 (some true)
 (some (decide ((1000 : Int) < (l.length : Int)))))
 (fun (h : Bool) =>
 (ifb (h)
 (some ((([] : (List (Rat × Rat))),(4 : Int))))
 (bnd (bnd (Z7 (fun s : (List (Rat × Rat)) × Int × Int=>match s with
 | (c,a,e) =>
 (ifb (decide (a < (l.length : Int)))
 (bnd (idx l a) fun f =>
 bnd (ZQb f.1) fun b =>
 bnd (ZQb f.2) fun d =>
 bnd (ifb (b.2 != ((0 : Int)))
 (some true)
 (ifb (d.2 != ((0 : Int)))
 (some true)
 (bnd (Znc b.1) fun i =>
 some (decide (i < (0 : Int))))))
 (fun (j : Bool) =>
 (ifb (j)
 (some (.inr ((.inl ((([] : (List (Rat × Rat))),(1 : Int)))))))
 (bnd (ifb (decide ((0 : Int) < a))
 (bnd (chk .i64 (a - ((1 : Int)))) fun k =>
 bnd (idx c k) fun m =>
 bnd (Z9a b.1 m.1) fun n =>
 some (decide (n ≤ (0 : Int))))
 (some false))
 (fun (o : Bool) =>
 (ifb (o)
 (some (.inr ((.inl ((([] : (List (Rat × Rat))),(7 : Int)))))))
 (bnd (Zob 112 (c ++ [(b.1,d.1)])) fun D =>
 bnd (idx ((c ++ [(b.1,d.1)])) e) fun q =>
 bnd (Z9a d.1 q.2) fun r =>
 bnd (ifb (decide (r < (0 : Int)))
 (some a)
 (some e))
 (fun (t : Int) =>
 (bnd (chk .i64 (a + ((1 : Int)))) fun u =>
 some (.inl (((c ++ [(b.1,d.1)]),u,t))))))))))))
 (some (.inr ((.inr ((c,e)))))))) Zta ((([] : (List (Rat × Rat))),(0 : Int),(0 : Int))))
 (fun (p : ((List (Rat × Rat)) × Int) ⊕ ((List (Rat × Rat)) × Int))=>match p with
 | .inl ((v,w)) =>
 (some ((.inr ((v,w)))))
 | .inr ((x,y)) =>
 (some ((.inl ((x,y)))))))
 (fun (p : ((List (Rat × Rat)) × Int) ⊕ ((List (Rat × Rat)) × Int))=>match p with
 | .inl ((g,z)) =>
 (bnd (Zqc g z ((g.length : Int))) fun A =>
 some ((A,(0 : Int))))
 | .inr ((B,C)) =>
 (some ((B,C)))))))
noncomputable def Zjc (l : (List (Nat × Nat))) (t : Rat) : Option (Rat × Int) :=
 bnd (ZEe l) fun a =>
 ifb (a.2 != ((0 : Int)))
 (some (((0 : Rat),a.2)))
 (bnd (Zwf a.1 t) fun b =>
 some ((b.1,b.2)))
noncomputable def ZKh (r : (Rat × (List (Rat × Rat)))) : Option (Int) :=
 ifb (decide ((10 : Int) < (r.2.length : Int)))
 (some ((4 : Int)))
 (bnd (Znc r.1) fun c =>
 ifb (decide (c < (0 : Int)))
 (some ((1 : Int)))
 (bnd (bnd (Z7 (fun s : Int=>match s with
 | a =>
 (ifb (decide (a < (r.2.length : Int)))
 (bnd (idx r.2 a) fun b =>
 bnd (bnd (Znc b.1) fun d =>
 ifb (decide (d < (0 : Int)))
 (some true)
 (bnd (Znc b.2) fun e =>
 some (decide (e ≤ (0 : Int)))))
 (fun (f : Bool) =>
 (ifb (f)
 (some (.inr ((.inl ((1 : Int))))))
 (bnd (ifb (decide ((0 : Int) < a))
 (bnd (chk .i64 (a - ((1 : Int)))) fun g =>
 bnd (idx r.2 g) fun h =>
 bnd (Z9a b.2 h.2) fun i =>
 some (decide (i ≤ (0 : Int))))
 (some false))
 (fun (j : Bool) =>
 (ifb (j)
 (some (.inr ((.inl ((7 : Int))))))
 (bnd (chk .i64 (a + ((1 : Int)))) fun k =>
 some (.inl k))))))))
 (some (.inr ((.inr (()))))))) Zta ((0 : Int)))
 (fun (p : (Int) ⊕ (Unit))=>match p with
 | .inl l =>
 (some ((.inr l)))
 | .inr (()) =>
 (some ((.inl (()))))))
 (fun (p : (Unit) ⊕ (Int))=>match p with
 | .inl (()) =>
 (some ((0 : Int)))
 | .inr m =>
 (some m))))
noncomputable def ZQh (t : Rat) (fw : Rat) : Option (Rat × Rat) :=
 bnd (ZMd fw t) fun a =>
 bnd (ZMd a a) fun b =>
 bnd (bnd (ZZb ((1 : Int))) fun d =>
 bnd (Zbc b d) fun e =>
 some e)
 (fun (c : Rat) =>
 (bnd (Z0c b c) fun f =>
 bnd (Z0c a c) fun g =>
 some ((f.1,g.1))))
noncomputable def ZEh (r : (Rat × (List (Rat × Rat)))) (fw : Rat) : Option (Rat × Rat) :=
 bnd (bnd (Z7 (fun s : Rat × Rat × Int=>match s with
 | (c,d,a) =>
 (ifb (decide (a < (r.2.length : Int)))
 (bnd (idx r.2 a) fun b =>
 bnd (ZQh b.2 fw) fun e =>
 bnd (ZMd e.1 b.1) fun f =>
 bnd (Zbc c f) fun g =>
 bnd (ZMd e.2 b.1) fun h =>
 bnd (Zbc d h) fun i =>
 bnd (chk .i64 (a + ((1 : Int)))) fun j =>
 some (.inl ((g,i,j))))
 (some (.inr ((c,d)))))) Zta ((r.1,(0 : Rat),(0 : Int))))
 (fun (p : Rat × Rat)=>match p with
 | (k,l) =>
 (some ((k,l)))))
 (fun (p : Rat × Rat)=>match p with
 | (m,n) =>
 (some ((m,n))))
noncomputable def Zjh (r : (Rat × (List (Rat × Rat)))) (fw : Rat) : Option (Rat × Rat × Int) :=
 bnd (ZKh ((r.1,r.2))) fun a =>
 ifb (a != ((0 : Int)))
 (some (((0 : Rat),(0 : Rat),a)))
 (bnd (Znc fw) fun c =>
 ifb (decide (c < (0 : Int)))
 (some (((0 : Rat),(0 : Rat),(1 : Int))))
 (bnd (ZEh ((r.1,r.2)) fw) fun b =>
 some ((b.1,b.2,(0 : Int)))))
noncomputable def Zmd  : Option (Bool) :=
 bnd (ZZb ((1 : Int))) fun c =>
 bnd (ZZb ((2 : Int))) fun d =>
 bnd (ZZb ((1 : Int))) fun e =>
 bnd (ZZb ((1 : Int))) fun f =>
 bnd (Zjh ((c,[(d,e)])) f) fun a =>
 bnd (ZZb ((4 : Int))) fun g =>
 bnd (Zjc ([((0 : Nat),(1084227584 : Nat)),((1092616192 : Nat),(1073741824 : Nat)),((1101004800 : Nat),(1073741824 : Nat)),((1106247680 : Nat),(1092616192 : Nat))]) g) fun b =>
 bnd (ifb (a.2.2 == ((0 : Int)))
 (ifb (b.2 == ((0 : Int)))
 (bnd (Ztd a.1) fun h =>
 ifb (h == (([50] : List UInt8)))
 (bnd (Ztd a.2.1) fun i =>
 ifb (i == (([49] : List UInt8)))
 (bnd (Ztd b.1) fun j =>
 some (j == (([52,53,47,50] : List UInt8))))
 (some false))
 (some false))
 (some false))
 (some false))
 (fun (k : Bool) =>
 (some k))
set_option maxRecDepth 100000 in
theorem ZLl : Zmd = some true := by
  unfold Zmd; rw [Z1k]; decide +kernel
set_option maxRecDepth 100000
abbrev PT := Rat × Rat
abbrev gD (D : List PT) (i : Nat) : PT := D.getD i (0, 0)
structure Rise (D : List PT) : Prop where
  n0 : 0 < D.length
  n40 : D.length ≤ 40
  time : ∀ i j, i < j → j < D.length → (gD D i).1 < (gD D j).1
  low : ∀ j, j < D.length → (gD D 0).2 ≤ (gD D j).2
  szs : ∀ j, j < D.length → sz 64 (gD D j).1 ∧ sz 64 (gD D j).2
def kR (D : List PT) (t : Rat) : Nat := D.findIdx fun p => decide (t ≤ p.2)
theorem ZRe (D : List PT) (t : Rat) : kR D t ≤ D.length := List.findIdx_le_length
theorem ZQd {D : List PT} {t : Rat} (h : kR D t < D.length) : t ≤ (gD D (kR D t)).2 := by
  have := List.findIdx_getElem (xs := D) (p := fun p => decide (t ≤ p.2)) (w := (show D.findIdx (fun p => decide (t ≤ p.2)) < D.length from h)); unfold gD; rw [Zec h]; exact of_decide_eq_true this
theorem Zpd {D : List PT} {t : Rat} {j : Nat} (h : j < kR D t) : (gD D j).2 < t := by
  have hl := ZRe D t; have := List.not_of_lt_findIdx (xs := D) (p := fun p => decide (t ≤ p.2)) h; unfold gD; rw [Zec (show j < D.length by omega)]; have h2 : ¬ t ≤ (D[j]'(by omega)).2 := by simpa using this
  grind
theorem Zei {D : List PT} {t : Rat} {k : Nat} (hk : k < D.length) (h1 : t ≤ (gD D k).2) (h2 : ∀ j, j < k → (gD D j).2 < t) : kR D t = k := by
  rcases Nat.lt_trichotomy (kR D t) k with h | h | h
  · have a := h2 _ h; have b := ZQd (D := D) (t := t) (by omega); grind
  · exact h
  · have a := Zpd h; grind
def ZTb (p q : PT) (t : Rat) : Rat := p.1 + (t - p.2) / ((q.2 - p.2) / (q.1 - p.1))
def Zbb (D : List PT) (t : Rat) : Rat × Int :=
  if kR D t = D.length then (0, 5) else if kR D t = 0 then ((gD D 0).1, 0) else (ZTb (gD D (kR D t - 1)) (gD D (kR D t)) t, 0)
section
variable {p q : PT} {t s : Rat}
theorem ZBe {a b : Rat} (ha : 0 < a) (hb : 0 < b) : 0 < a / b := by rw [Rat.div_def]; exact Rat.mul_pos ha (Rat.inv_pos.2 hb)
theorem Zuj {a b : Rat} (ha : 0 < a) (hb : 0 < b) : a / (a / b) = b := by
  have hm := ZBe ha hb; have h1 : b * (a / b) = a := by
    rw [Rat.div_def]; have := Rat.mul_inv_cancel b (by grind); have e : b * (a * b⁻¹) = (b * b⁻¹) * a := by grind
    rw [e, this]; grind
  have h2 := Rat.mul_inv_cancel (a / b) (by grind); have e : a / (a / b) = a * (a / b)⁻¹ := Rat.div_def _ _; rw [e]; have e2 : a * (a / b)⁻¹ = b * (a / b) * (a / b)⁻¹ := by rw [h1]
  rw [e2, Rat.mul_assoc, h2]; grind
theorem Z0i {a b m : Rat} (h : a ≤ b) (hm : 0 < m) : a / m ≤ b / m := by
  rw [Rat.div_def, Rat.div_def]; have := Rat.mul_nonneg (show 0 ≤ b - a by grind) (Rat.le_of_lt (Rat.inv_pos.2 hm)); grind
theorem step_hi (h1 : p.1 < q.1) (h2 : p.2 < t) (h3 : t ≤ q.2) : ZTb p q t ≤ q.1 := by
  unfold ZTb; have a : 0 < q.2 - p.2 := by grind
  have b : 0 < q.1 - p.1 := by grind
  have e := Zuj a b; have := Z0i (show t - p.2 ≤ q.2 - p.2 by grind) (ZBe a b); rw [e] at this; grind
theorem Zqj (h1 : p.1 < q.1) (h2 : p.2 < t) (h3 : t ≤ q.2) : p.1 < ZTb p q t := by
  unfold ZTb; have a : 0 < q.2 - p.2 := by grind
  have b : 0 < q.1 - p.1 := by grind
  have := ZBe (show 0 < t - p.2 by grind) (ZBe a b); grind
theorem Zuk (h1 : p.1 < q.1) (h2 : p.2 < q.2) : ZTb p q q.2 = q.1 := by
  unfold ZTb; rw [Zuj (by grind) (by grind)]; grind
theorem ZJl (h1 : p.1 < q.1) (h2 : p.2 < q.2) (h : s ≤ t) : ZTb p q s ≤ ZTb p q t := by
  unfold ZTb; have := Z0i (show s - p.2 ≤ t - p.2 by grind) (ZBe (show 0 < q.2 - p.2 by grind) (show 0 < q.1 - p.1 by grind)); grind
end
def hiI (D : List PT) : Nat → Nat
  | 0 => 0
  | k + 1 => if (gD D (hiI D k)).2 < (gD D k).2 then k else hiI D k
theorem ZYe (D : List PT) : ∀ k, (∀ j, j < k → (gD D j).2 ≤ (gD D (hiI D k)).2) ∧ (∀ j, j < hiI D k → (gD D j).2 < (gD D (hiI D k)).2) ∧ (0 < k → hiI D k < k)
  | 0 => ⟨fun j h => by omega, fun j h => by unfold hiI at h; omega, fun h => by omega⟩
  | k + 1 => by
    obtain ⟨a, b, c⟩ := ZYe D k
    unfold hiI
    by_cases h : (gD D (hiI D k)).2 < (gD D k).2
    · rw [if_pos h]
      refine ⟨fun j hj => ?_, fun j hj => ?_, fun _ => by omega⟩
      · rcases Nat.lt_or_ge j k with h1 | h1
        · have := a j h1; grind
        · obtain rfl : j = k := by omega
          exact Rat.le_refl
      · have := a j hj; grind
    · rw [if_neg h]
      refine ⟨fun j hj => ?_, b, fun _ => ?_⟩
      · rcases Nat.lt_or_ge j k with h1 | h1
        · exact a j h1
        · obtain rfl : j = k := by omega
          grind
      · rcases Nat.eq_zero_or_pos k with h1 | h1
        · subst h1; show 0 < 1; omega
        · have := c h1; omega
section
variable {D : List PT} (R : Rise D)
include R
theorem ZPg : hiI D D.length < D.length := (ZYe D D.length).2.2 R.n0
theorem hi_max {j : Nat} (h : j < D.length) : (gD D j).2 ≤ (gD D (hiI D D.length)).2 := (ZYe D D.length).1 j h
theorem Z8m : Zbb D (gD D 0).2 = ((gD D 0).1, 0) := by
  have hk : kR D (gD D 0).2 = 0 := Zei R.n0 Rat.le_refl (fun j h => by omega); unfold Zbb; rw [hk, if_neg (by have := R.n0; omega), if_pos rfl]
theorem Zzk : Zbb D (gD D (hiI D D.length)).2 = ((gD D (hiI D D.length)).1, 0) := by
  obtain ⟨a, b, c⟩ := ZYe D D.length; have hk : kR D (gD D (hiI D D.length)).2 = hiI D D.length := Zei (ZPg R) Rat.le_refl b; have hl := ZPg R; unfold Zbb; rw [hk, if_neg (by omega)]; generalize hiI D D.length = h at *; by_cases h0 : h = 0
  · rw [if_pos h0, h0]
  · rw [if_neg h0, Zuk (R.time _ _ (by omega) hl) (b (h - 1) (by omega))]
theorem Zxk {t : Rat} (h : (gD D (hiI D D.length)).2 < t) : Zbb D t = (0, 5) := by
  have hk : kR D t = D.length := by
    rcases Nat.lt_or_ge (kR D t) D.length with h1 | h1
    · have a := ZQd h1; have b := hi_max R h1; grind
    · have := ZRe D t; omega
  unfold Zbb; rw [if_pos hk]
theorem Z4h {t : Rat} (h : t ≤ (gD D (hiI D D.length)).2) : kR D t < D.length ∧ (Zbb D t).2 = 0 := by
  have hk : kR D t < D.length := by
    rcases Nat.lt_or_ge (kR D t) D.length with h1 | h1
    · exact h1
    · have := Zpd (D := D) (t := t) (j := hiI D D.length) (by have := ZPg R; omega); grind
  refine ⟨hk, ?_⟩; unfold Zbb; rw [if_neg (by omega)]; split <;> rfl
theorem Zvk {s t : Rat} (hst : s ≤ t) (h : t ≤ (gD D (hiI D D.length)).2) : (Zbb D s).1 ≤ (Zbb D t).1 := by
  obtain ⟨kt, _⟩ := Z4h R h; obtain ⟨ks, _⟩ := Z4h R (Rat.le_trans hst h); have hle : kR D s ≤ kR D t := by
    rcases Nat.lt_or_ge (kR D t) (kR D s) with h1 | h1
    · have a := Zpd h1; have b := ZQd kt; grind
    · exact h1
  unfold Zbb; rw [if_neg (show ¬ kR D s = D.length by omega), if_neg (show ¬ kR D t = D.length by omega)]; have at_s := ZQd ks; have at_t := ZQd kt; have bs : ∀ j, j < kR D s → (gD D j).2 < s := fun j hj => Zpd hj; have bt : ∀ j, j < kR D t → (gD D j).2 < t := fun j hj => Zpd hj; generalize kR D s = a at *; generalize kR D t = b at *; by_cases ha : a = 0
  · rw [if_pos ha]; by_cases hb : b = 0
    · rw [if_pos hb]; exact Rat.le_refl
    · rw [if_neg hb]; have h1 := Zqj (R.time (b - 1) b (by omega) kt) (bt (b - 1) (by omega)) at_t; rcases Nat.eq_zero_or_pos (b - 1) with h2 | h2
      · rw [h2] at h1 ⊢; exact Rat.le_of_lt h1
      · have h3 := R.time 0 (b - 1) h2 (by omega); show (gD D 0).1 ≤ ZTb _ _ _; grind
  · rw [if_neg ha, if_neg (show ¬ b = 0 by omega)]; show ZTb _ _ _ ≤ ZTb _ _ _; rcases Nat.lt_or_ge a b with hab | hab
    · have h1 := step_hi (R.time (a - 1) a (by omega) ks) (bs (a - 1) (by omega)) at_s; have h2 := Zqj (R.time (b - 1) b (by omega) kt) (bt (b - 1) (by omega)) at_t; rcases Nat.lt_or_ge a (b - 1) with h3 | h3
      · have h4 := R.time a (b - 1) h3 (by omega); grind
      · obtain rfl : a = b - 1 := by omega
        grind
    · obtain rfl : a = b := by omega
      have h3 := bs (a - 1) (by omega); exact ZJl (R.time (a - 1) a (by omega) kt) (by grind) hst
end
noncomputable def ZDg (p : (Rat × Rat)) (q : (Rat × Rat)) : Option (Int) :=
 bnd (Z9a p.2 q.2) fun a =>
 some a
noncomputable def Zmg (l : (List (Rat × Rat))) (g : Unit) : Option ((Rat × Rat)) :=
 ifb (decide ((l.length : Int) < (1 : Int)))
  (none)
 (bnd (idx l ((0 : Int))) fun c =>
 bnd (bnd (Z7 (fun s : (Rat × Rat) × Int=>match s with
 | (a,b) =>
 (ifb (decide (b < (l.length : Int)))
 (bnd (idx l b) fun d =>
 bnd (ZDg ((d.1,d.2)) ((a.1,a.2))) fun j =>
 bnd (ifb (decide ((0 : Int) < j))
 (bnd (idx l b) fun e =>
 some ((e.1,e.2)))
 (some ((a.1,a.2))))
 (fun (f : (Rat × Rat)) =>
 (bnd (chk .i64 (b + ((1 : Int)))) fun k =>
 some (.inl (((f.1,f.2),k))))))
 (some (.inr ((a.1,a.2)))))) Zta (((c.1,c.2),(1 : Int))))
 (fun (h : (Rat × Rat)) =>
 (some ((h.1,h.2)))))
 (fun (i : (Rat × Rat)) =>
 (some ((i.1,i.2)))))
noncomputable def Zrf (l : (List (Rat × Rat))) : Option ((Rat × Rat)) :=
 bnd (Zmg l (())) fun a =>
 some ((a.1,a.2))
noncomputable def ZLf (l : (List (Nat × Nat))) : Option ((Rat × Rat × Rat × Rat) × Int) :=
 bnd (ZEe l) fun a =>
 ifb (a.2 != ((0 : Int)))
 (some ((((0 : Rat),(0 : Rat),(0 : Rat),(0 : Rat)),a.2)))
 (bnd (Zrf a.1) fun b =>
 bnd (idx a.1 ((0 : Int))) fun c =>
 bnd (idx a.1 ((0 : Int))) fun d =>
 some (((c.2,d.1,b.2,b.1),(0 : Int))))
noncomputable def Zsg (l : (List (Int × Int × Int))) (ra : (Int × Int)) (rb : (Int × Int)) : Option (Bool) :=
 bnd (ifb (decide ((40 : Int) < (l.length : Int)))
 (some true)
 (some (decide ((l.length : Int) < (2 : Int)))))
 (fun (q : Bool) =>
 (ifb (q)
 (bnd (Zmd ) fun r =>
 some r)
 (bnd (mk 8 ((l.length : Int)) ((l.length : Int))) fun T =>
 bnd (bnd (Z7 (fun s : (List (Nat × Nat)) × Int × Int=>match s with
 | (d,i,c) =>
 (ifb (decide (c < (l.length : Int)))
 (bnd (idx l c) fun j =>
 bnd (Z7b .f32 i) fun t =>
 bnd (Z7b .f32 j.2.1) fun u =>
 bnd (Zvc .f32 u ((1090519040 : Nat))) fun v =>
 bnd (idx d c) fun U =>
 bnd (chk .i64 ((IntKind.i64.wrap j.1) + ((1 : Int)))) fun w =>
 bnd (chk .i64 (i + w)) fun x =>
 bnd (chk .i64 (c + ((1 : Int)))) fun y =>
 some (.inl (((d.set (c).toNat ((t,v))),x,y))))
 (some (.inr d)))) Zta (((List.replicate ((l.length : Int)).toNat (((0 : Nat),(0 : Nat)))),(0 : Int),(0 : Int))))
 (fun (z : (List (Nat × Nat))) =>
 (some z)))
 (fun (b : (List (Nat × Nat))) =>
 (bnd (ZLf b) fun a =>
 bnd (ifb (a.2 != ((0 : Int)))
 (some true)
 (bnd (Z9a a.1.1 a.1.2.2.1) fun A =>
 ifb (decide ((0 : Int) < A))
 (some true)
 (bnd (Z9a a.1.2.1 a.1.2.2.2) fun B =>
 some (decide ((0 : Int) < B)))))
 (fun (C : Bool) =>
 (ifb (C)
 (some false)
 (bnd (Zjc b a.1.1) fun k =>
 bnd (Zjc b a.1.2.2.1) fun m =>
 bnd (bnd (ZZb ((1 : Int))) fun D =>
 bnd (Zbc a.1.2.2.1 D) fun E =>
 bnd (Zjc b E) fun F =>
 some F.2)
 (fun (G : Int) =>
 (bnd (ifb (k.2 != ((0 : Int)))
 (some true)
 (ifb (m.2 != ((0 : Int)))
 (some true)
 (ifb (G != ((5 : Int)))
 (some true)
 (bnd (ZHd k.1 a.1.2.1) fun H =>
 ifb (!(H))
 (some true)
 (bnd (ZHd m.1 a.1.2.2.2) fun I =>
 some (!(I)))))))
 (fun (J : Bool) =>
 (ifb (J)
 (some false)
 (bnd (Z6d ((ra.1,ra.2))) fun e =>
 bnd (Z6d ((rb.1,rb.2))) fun f =>
 bnd (Z9a e f) fun K =>
 bnd (ifb (decide ((0 : Int) < K))
 (some ((f,e)))
 (some ((e,f))))
 (fun (p : Rat × Rat)=>match p with
 | (n,o) =>
 (bnd (Zjc b n) fun g =>
 bnd (Zjc b o) fun h =>
 bnd (bnd (Z9a n a.1.2.2.1) fun L =>
 ifb ((g.2 == ((0 : Int))) != (decide (L ≤ (0 : Int))))
 (some true)
 (bnd (Z9a o a.1.2.2.1) fun M =>
 some ((h.2 == ((0 : Int))) != (decide (M ≤ (0 : Int))))))
 (fun (N : Bool) =>
 (ifb (N)
 (some false)
 (bnd (ifb (g.2 != ((0 : Int)))
 (bnd (Zmd ) fun O =>
 some O)
 (ifb (h.2 != ((0 : Int)))
 (bnd (Zmd ) fun P =>
 some P)
 (bnd (Z9a g.1 h.1) fun Q =>
 ifb (decide (Q ≤ (0 : Int)))
 (bnd (Zmd ) fun R =>
 some R)
 (some false))))
 (fun (S : Bool) =>
 (some S))))))))))))))))))))
set_option maxRecDepth 100000
theorem sg4 (x : Rat) : Znc x = some x.num.sign := rfl
theorem lt4 {x y : Rat} : decide ((x - y).num.sign < 0) = decide (x < y) := decide_eq_decide.2 (by rw [Z2h]; constructor <;> intro h <;> grind)
theorem le4 {x y : Rat} : decide ((x - y).num.sign ≤ 0) = decide (x ≤ y) := decide_eq_decide.2 (by rw [ZLm]; constructor <;> intro h <;> grind)
theorem gt4 {x y : Rat} : decide (0 < (x - y).num.sign) = decide (y < x) := decide_eq_decide.2 (by rw [Z1j]; constructor <;> intro h <;> grind)
theorem ge4 {x y : Rat} : decide (0 ≤ (x - y).num.sign) = decide (y ≤ x) := decide_eq_decide.2 (by rw [ZPk]; constructor <;> intro h <;> grind)
def loI (Q : List PT) : Nat → Nat
  | 0 => 0
  | k + 1 => if (gD Q k).2 < (gD Q (loI Q k)).2 then k else loI Q k
theorem ZXf (Q : List PT) : ∀ k, (∀ j, j < k → (gD Q (loI Q k)).2 ≤ (gD Q j).2) ∧ (loI Q k ≤ k) ∧ (0 < k → loI Q k < k)
  | 0 => ⟨fun j h => by omega, Nat.le_refl _, fun h => by omega⟩
  | k + 1 => by
    obtain ⟨a, b, c⟩ := ZXf Q k
    unfold loI
    by_cases h : (gD Q k).2 < (gD Q (loI Q k)).2
    · rw [if_pos h]
      refine ⟨fun j hj => ?_, by omega, fun _ => by omega⟩
      rcases Nat.lt_or_ge j k with h1 | h1
      · have := a j h1; grind
      · obtain rfl : j = k := by omega
        exact Rat.le_refl
    · rw [if_neg h]
      refine ⟨fun j hj => ?_, by omega, fun _ => ?_⟩
      · rcases Nat.lt_or_ge j k with h1 | h1
        · exact a j h1
        · obtain rfl : j = k := by omega
          grind
      · rcases Nat.eq_zero_or_pos k with h1 | h1
        · subst h1; show 0 < 1; omega
        · have := c h1; omega
structure Pts (c : List (Nat × Nat)) (Q : List PT) : Prop where
  len : c.length = Q.length
  n2 : 2 ≤ Q.length
  n40 : Q.length ≤ 40
  x1 : ∀ i, (h : i < c.length) → ZQb c[i].1 = some ((gD Q i).1, 0)
  x2 : ∀ i, (h : i < c.length) → ZQb c[i].2 = some ((gD Q i).2, 0)
  pos : ∀ i, i < Q.length → 0 ≤ (gD Q i).1
  time : ∀ i j, i < j → j < Q.length → (gD Q i).1 < (gD Q j).1
  szs : ∀ i, i < Q.length → sz 64 (gD Q i).1 ∧ sz 64 (gD Q i).2
theorem ZOe (Q : List PT) (k j : Nat) : gD (Q.drop k) j = gD Q (k + j) := by
  unfold gD; rw [List.getD_eq_getElem?_getD, List.getD_eq_getElem?_getD, List.getElem?_drop]
section
variable {c : List (Nat × Nat)} {Q : List PT} (H : Pts c Q)
include H
theorem Pts.rise : Rise (Q.drop (loI Q Q.length)) := by
  obtain ⟨a, b, e⟩ := ZXf Q Q.length; have hn := H.n2; have hl := e (by omega); have hd : (Q.drop (loI Q Q.length)).length = Q.length - loI Q Q.length := List.length_drop ..; have h40 := H.n40; refine ⟨by omega, by omega, fun i j hij hj => ?_, fun j hj => ?_, fun j hj => ?_⟩
  · rw [ZOe, ZOe]; exact H.time _ _ (by omega) (by omega)
  · rw [ZOe, ZOe, Nat.add_zero]; exact a _ (by omega)
  · rw [ZOe]; exact H.szs _ (by omega)
theorem rise_eq : ZEe c = some (Q.drop (loI Q Q.length), 0) := by
  have hn := H.n2; have h40 := H.n40; have hc := H.len; unfold ZEe; rw [decide_eq_false (by omega), ZJ, decide_eq_false (by omega), Zf, ZJ]; refine ZCb (y := .inl (Q, (loI Q Q.length : Int))) (ZCb (y := .inr (Q, (loI Q Q.length : Int))) (Zbf (fun k => (Q.take k, (k : Int), (loI Q k : Int))) c.length rfl (by omega) (fun k hk => ?_) ?_) rfl) ?_
  · have g := Zec (l := Q) (d := ((0 : Rat), (0 : Rat))) (show k < Q.length by omega); have e : Q.take k ++ [((gD Q k).1, (gD Q k).2)] = Q.take (k + 1) := by
      rw [List.take_succ_eq_append_getElem (by omega)]; show _ ++ [gD Q k] = _; rw [show gD Q k = Q[k] from g]
    have zk := H.szs k (by omega); have pk := H.pos k (by omega); obtain ⟨_, lo1, _⟩ := ZXf Q k; have zl := H.szs (loI Q k) (by omega); have t1 : (Q.take (k + 1)).length = k + 1 := by rw [List.length_take]; omega
    have r1 : Zob 112 (Q.take (k + 1)) = some () := by unfold Zob; rw [if_pos (by omega)]
    have i1 : idx (Q.take (k + 1)) (loI Q k : Int) = some (gD Q (loI Q k)) := by
      rw [Zda (by omega), List.getElem_take]; exact congrArg some (Zec (l := Q) (d := ((0 : Rat), (0 : Rat))) (show loI Q k < Q.length by omega)).symm
    have b0 : ((0 : Int) != 0) = false := rfl; have sn : decide ((gD Q k).1.num.sign < 0) = false := decide_eq_false fun h => by have := Z2h.1 h; grind
    simp only; rw [decide_eq_true (by omega), ZO, Zda hk, Zf, H.x1 k hk, Zf, H.x2 k hk, Zf]; simp only [b0, ZJ]; rw [sg4, Zf, sn, Zf, ZJ, e]; refine ZCb (y := false) ?_ ?_
    · by_cases h0 : 0 < k
      · have e1 : (k : Int) - 1 = ((k - 1 : Nat) : Int) := by omega
        have t0 : (Q.take k).length = k := by rw [List.length_take]; omega
        have i0 : idx (Q.take k) ((k - 1 : Nat) : Int) = some (gD Q (k - 1)) := by
          rw [Zda (by omega), List.getElem_take]; exact congrArg some (Zec (l := Q) (d := ((0 : Rat), (0 : Rat))) (show k - 1 < Q.length by omega)).symm
        have tt := H.time (k - 1) k (by omega) (by omega); rw [decide_eq_true (by omega), ZO, Zba (by omega) (by omega), Zf, e1, i0, Zf, ZJc zk.1 (H.szs (k - 1) (by omega)).1 (by omega), Zf, le4, decide_eq_false (by grind)]
      · rw [decide_eq_false (by omega), ZJ]
    rw [ZJ, r1, Zf, i1, Zf, ZJc zk.2 zl.2 (by omega), Zf, lt4]; refine ZCb (y := (loI Q (k + 1) : Int)) ?_ ?_
    · have el : loI Q (k + 1) = if (gD Q k).2 < (gD Q (loI Q k)).2 then k else loI Q k := rfl; rw [el]; by_cases h : (gD Q k).2 < (gD Q (loI Q k)).2
      · rw [decide_eq_true h, ZO, if_pos h]
      · rw [decide_eq_false h, ZJ, if_neg h]
    rw [Zba (by omega) (by omega), Zf]; rfl
  · simp only; rw [decide_eq_false (by omega), ZJ, hc, List.take_length]
  · obtain ⟨_, lo1, _⟩ := ZXf Q Q.length; have ec : Zqc Q (loI Q Q.length : Int) (Q.length : Int) = some (Q.drop (loI Q Q.length)) := by
      unfold Zqc; rw [if_pos ⟨by omega, by omega, by omega⟩, Int.toNat_natCast, Int.toNat_natCast, List.take_length]
    simp only; rw [ec, Zf]
end
section
variable {D : List PT} (R : Rise D)
include R
theorem Zcd {i : Nat} (h : i < D.length) : idx D (i : Int) = some (gD D i) := by
  rw [Zda h]; exact congrArg some (Zec (l := D) (d := ((0 : Rat), (0 : Rat))) h).symm
theorem Zpn : Zrf D = some (gD D (hiI D D.length)) := by
  have hn := R.n0; have h40 := R.n40; unfold Zrf Zmg; have i0 : idx D (0 : Int) = some (gD D 0) := Zcd R hn; rw [decide_eq_false (by omega), ZJ, i0, Zf]; have h1 : hiI D 1 = 0 := by
    show (if (gD D 0).2 < (gD D 0).2 then 0 else 0) = 0; split <;> rfl
  refine ZCb (y := gD D (hiI D D.length)) (ZCb (y := gD D (hiI D D.length)) (ZCb (y := gD D (hiI D D.length)) (Zbf (fun k => (gD D (hiI D (k + 1)), ((k + 1 : Nat) : Int))) (D.length - 1) ?_ (by omega) (fun k hk => ?_) ?_) rfl) rfl) rfl
  · show (gD D (hiI D 1), ((1 : Nat) : Int)) = _; rw [h1]; rfl
  · have hk1 : k + 1 < D.length := by omega
    have zk := R.szs _ hk1; have hh := (ZYe D (k + 1)).2.2 (by omega); have zh := R.szs (hiI D (k + 1)) (by omega); have el : hiI D (k + 2) = if (gD D (hiI D (k + 1))).2 < (gD D (k + 1)).2 then k + 1 else hiI D (k + 1) := rfl; simp only; rw [decide_eq_true (by omega), ZO, Zcd R hk1, Zf]; unfold ZDg; rw [ZJc zk.2 zh.2 (by omega), Zf, Zf, gt4]; refine ZCb (y := gD D (hiI D (k + 2))) ?_ ?_
    · rw [el]; by_cases h : (gD D (hiI D (k + 1))).2 < (gD D (k + 1)).2
      · rw [decide_eq_true h, ZO, if_pos h, Zf]
      · rw [decide_eq_false h, ZJ, if_neg h]
    rw [Zba (by omega) (by omega), Zf]; rfl
  · simp only; rw [decide_eq_false (by omega), ZJ, show D.length - 1 + 1 = D.length by omega]
theorem Ztl {t : Rat} (zt : sz 200 t) : Z8e D t = some (if kR D t = D.length then -1 else (kR D t : Int)) := by
  have h40 := R.n40; have b1 : ∀ i, (hi : i < D.length) → ZTf ((gD D i).1, (gD D i).2) t = some (decide (t ≤ (gD D i).2)) := fun i hi => by
    unfold ZTf; rw [ZJc (R.szs i hi).2 zt (by omega), Zf, ge4]
  unfold Z8e; by_cases hc : kR D t = D.length
  · rw [if_pos hc]; refine ZCb (y := .inl ()) (ZCb (y := .inr ()) (Zbf (fun k => (k : Int)) D.length rfl (by omega) (fun k hk => ?_) ?_) rfl) rfl
    · have hb := Zpd (D := D) (t := t) (j := k) (by omega); simp only; rw [decide_eq_true (by omega), ZO, Zcd R hk, Zf, b1 k hk, Zf, decide_eq_false (by grind), ZJ, Zba (by omega) (by omega), Zf]; rfl
    · simp only; rw [decide_eq_false (by omega), ZJ]
  · have hl := ZRe D t; have hlt : kR D t < D.length := by omega
    rw [if_neg hc]; refine ZCb (y := .inr (kR D t : Int)) (ZCb (y := .inl (kR D t : Int)) (Zbf (fun k => (k : Int)) (kR D t) rfl (by omega) (fun k hk => ?_) ?_) rfl) rfl
    · have hb := Zpd (D := D) (t := t) (j := k) hk; simp only; rw [decide_eq_true (by omega), ZO, Zcd R (by omega), Zf, b1 k (by omega), Zf, decide_eq_false (by grind), ZJ, Zba (by omega) (by omega), Zf]; rfl
    · simp only; rw [decide_eq_true (by omega), ZO, Zcd R hlt, Zf, b1 _ hlt, Zf, decide_eq_true (ZQd hlt), ZO]
theorem Zfn {t : Rat} (zt : sz 200 t) : Zwf D t = some (Zbb D t) := by
  have h40 := R.n40; have h0 := R.n0; unfold Zwf Zbb; rw [Ztl R zt, Zf]; by_cases hc : kR D t = D.length
  · rw [if_pos hc, if_pos hc]; rfl
  · have hl := ZRe D t; have hlt : kR D t < D.length := by omega
    rw [if_neg hc, if_neg hc, decide_eq_false (by omega), ZJ]; have at_t := ZQd hlt; have bt : ∀ j, j < kR D t → (gD D j).2 < t := fun j hj => Zpd hj; generalize kR D t = k at *; by_cases hk : k = 0
    · subst hk; rw [if_pos rfl, show ((((0 : Nat) : Int)) == (0 : Int)) = true from rfl, ZO, show idx D (0 : Int) = some (gD D 0) from Zcd R h0, Zf]
    · have e0 : (((k : Nat) : Int) == (0 : Int)) = false := by rw [Bool.eq_false_iff]; intro h; rw [beq_iff_eq] at h; omega
      have e1 : (k : Int) - 1 = ((k - 1 : Nat) : Int) := by omega
      have zp := R.szs (k - 1) (by omega); have zq := R.szs k hlt; have tt := R.time (k - 1) k (by omega) hlt; have vv := bt (k - 1) (by omega); have d1 := Zee zt zp.2; have d2 := Zee zq.2 zp.2; have d3 := Zee zq.1 zp.1; have d4 := ZVe d2 d3; have d5 := ZVe d1 d4; have n3 : (gD D k).1 - (gD D (k - 1)).1 ≠ 0 := by grind
      have n4 : ((gD D k).2 - (gD D (k - 1)).2) / ((gD D k).1 - (gD D (k - 1)).1) ≠ 0 := by
        have := ZBe (show 0 < (gD D k).2 - (gD D (k - 1)).2 by grind) (show 0 < (gD D k).1 - (gD D (k - 1)).1 by grind); grind
      rw [if_neg hk, e0, ZJ, Zba (by omega) (by omega), Zf, e1, Zcd R (by omega), Zf]; refine ZCb (y := (t - (gD D (k - 1)).2) / (((gD D k).2 - (gD D (k - 1)).2) / ((gD D k).1 - (gD D (k - 1)).1))) ?_ ?_
      · unfold ZBg; rw [ZGh zt zp.2 (by omega), Zf, Zcd R hlt, Zf, ZGh zq.2 zp.2 (by omega), Zf, ZGh zq.1 zp.1 (by omega), Zf, Z6i d2 d3 (by omega) n3, Zf, Zf, Zf, Z6i d1 d4 (by omega) n4, Zf]
      · rw [Zdi zp.1 d5 (by omega), Zf]; rfl
theorem Zhn {t : Rat} (zt : sz 200 t) : sz 2000 (Zbb D t).1 := by
  have h0 := R.n0; unfold Zbb; by_cases hc : kR D t = D.length
  · rw [if_pos hc]; exact Z3m.mono (by omega)
  · have hl := ZRe D t; rw [if_neg hc]; by_cases hk : kR D t = 0
    · rw [if_pos hk]; exact (R.szs 0 h0).1.mono (by omega)
    · rw [if_neg hk]; have zp := R.szs (kR D t - 1) (by omega); have zq := R.szs (kR D t) (by omega); unfold ZTb; exact (ZTg zp.1 (ZVe (Zee zt zp.2) (ZVe (Zee zq.2 zp.2) (Zee zq.1 zp.1)))).mono (by omega)
end
set_option maxRecDepth 100000
abbrev T3 := Int × Int × Int
abbrev g3 (l : List T3) (i : Nat) : T3 := l.getD i (0, 0, 0)
def atI (l : List T3) : Nat → Nat
  | 0 => 0
  | k + 1 => atI l k + ((g3 l k).1.toNat + 1)
def tN (l : List T3) (i : Nat) : Nat := (g3 l i).2.1.toNat
def U8s (l : List T3) : Prop := ∀ x ∈ l, 0 ≤ x.1 ∧ x.1 ≤ 255 ∧ 0 ≤ x.2.1 ∧ x.2.1 ≤ 255
theorem U8s.at {l : List T3} (h : U8s l) {i : Nat} (hi : i < l.length) : 0 ≤ (g3 l i).1 ∧ (g3 l i).1 ≤ 255 ∧ 0 ≤ (g3 l i).2.1 ∧ (g3 l i).2.1 ≤ 255 := by
  unfold g3; rw [Zec hi]; exact h _ (List.getElem_mem hi)
theorem Zjj (l : List T3) {i : Nat} : ∀ j, i < j → atI l i < atI l j
  | 0, h => by omega
  | j + 1, h => by
    have e : atI l (j + 1) = atI l j + ((g3 l j).1.toNat + 1) := rfl
    rcases Nat.lt_or_ge i j with h1 | h1
    · have := Zjj l j h1; omega
    · obtain rfl : i = j := by omega
      omega
theorem Zoh {l : List T3} (h : U8s l) : ∀ k, k ≤ l.length → atI l k ≤ 256 * k
  | 0, _ => Nat.le_refl _
  | k + 1, hk => by
    have := Zoh h k (by omega)
    have := h.at (i := k) (by omega)
    show atI l k + ((g3 l k).1.toNat + 1) ≤ _
    omega
theorem set_at {α : Type} (A B : List α) (z v : α) : (A ++ z :: B).set A.length v = A ++ v :: B := by
  rw [List.set_append_right _ _ (Nat.le_refl _), Nat.sub_self]; rfl
def ZDc {β : Type} (f : Nat → β) (z : β) (n k : Nat) : List β := (List.range k).map f ++ List.replicate (n - k) z
theorem Zrn {β : Type} (f : Nat → β) (z : β) {n k : Nat} (h : k ≤ n) : (ZDc f z n k).length = n := by unfold ZDc; simp; omega
theorem ZMm {β : Type} (f : Nat → β) (z : β) {n k : Nat} (h : k < n) : (ZDc f z n k).set k (f k) = ZDc f z n (k + 1) := by
  unfold ZDc; have e : n - k = (n - (k + 1)) + 1 := by omega
  have hl : ((List.range k).map f).length = k := by simp
  rw [e, List.replicate_succ, List.range_succ, List.map_append]; have := set_at ((List.range k).map f) (List.replicate (n - (k + 1)) z) z (f k); rw [hl] at this; rw [this, List.append_assoc]; rfl
theorem Zml {β : Type} (f : Nat → β) (z : β) (n : Nat) : ZDc f z n n = (List.range n).map f := by unfold ZDc; simp
def cP (l : List T3) (i : Nat) : Nat × Nat := (cvI (atI l i), cvT (tN l i))
def qP (l : List T3) (i : Nat) : PT := (((atI l i : Int) : Rat), ((tN l i : Int) : Rat) / 8)
def cC (l : List T3) : List (Nat × Nat) := (List.range l.length).map (cP l)
def cQ (l : List T3) : List PT := (List.range l.length).map (qP l)
theorem Zne (l : List T3) {i : Nat} (h : i < l.length) : gD (cQ l) i = qP l i := by
  unfold gD cQ; rw [Zec (by simpa using h)]; simp
theorem szI {n : Int} (h : 0 ≤ n ∧ n < 65536) : sz 16 (n : Rat) := by
  have h2 := Z1i n; have h3 : bl n.natAbs ≤ 16 := ZDb (show n.natAbs < 2 ^ 16 by omega); exact ⟨by omega, by omega⟩
theorem cC_at (l : List T3) {i : Nat} (h : i < (cC l).length) : (cC l)[i] = cP l i := by
  simp [cC]
theorem pts_ok {l : List T3} (h : U8s l) (h2 : 2 ≤ l.length) (h40 : l.length ≤ 40) : Pts (cC l) (cQ l) := by
  have hq : (cQ l).length = l.length := by unfold cQ; simp
  have hc : (cC l).length = l.length := by unfold cC; simp
  have hI : ∀ i, i < l.length → atI l i < 10000 := fun i hi => by have := Zoh h i (by omega); omega
  have hT : ∀ i, i < l.length → tN l i < 256 := fun i hi => by have := h.at hi; unfold tN; omega
  refine ⟨by rw [hc, hq], by omega, by omega, fun i hi => ?_, fun i hi => ?_, fun i hi => ?_, fun i j hij hj => ?_, fun i hi => ?_⟩
  · rw [Zne l (by omega)]; rw [cC_at]; exact (Z0j (hI i (by omega))).2
  · rw [Zne l (by omega)]; rw [cC_at]; obtain ⟨b, _, _, e⟩ := ZLj (hT i (by omega)); exact e
  · rw [Zne l (by omega)]; show (0 : Rat) ≤ ((atI l i : Int) : Rat)
    exact_mod_cast Int.natCast_nonneg _
  · rw [Zne l (by omega), Zne l (by omega)]; show ((atI l i : Int) : Rat) < ((atI l j : Int) : Rat); have := Zjj l j hij
    exact_mod_cast this
  · rw [Zne l (by omega)]; have a := hI i (by omega); have b := hT i (by omega); exact ⟨(Zxf (by omega)).mono (by omega), (ZVe (szI (n := (tN l i : Int)) (by omega)) (szI (n := 8) (by omega))).mono (by omega)⟩
theorem ZSm (l : List T3) (ra rb : Int × Int) (h : U8s l) (h1 : i64 ra) (h2 : i64 rb) : Zsg l ra rb = some true := by
  unfold Zsg; rw [ZLl]; by_cases n1 : 40 < l.length
  · rw [decide_eq_true (by omega), ZO, Zf, ZO, Zf]
  rw [decide_eq_false (by omega), ZJ]; by_cases n2 : l.length < 2
  · rw [decide_eq_true (by omega), Zf, ZO, Zf]
  rw [decide_eq_false (by omega), Zf, ZJ]; have H := pts_ok h (by omega) (by omega); have hm : mk 8 (l.length : Int) (l.length : Int) = some () := by unfold mk; rw [if_pos ⟨by omega, by omega, by omega, by omega⟩]
  rw [hm, Zf]; refine ZCb (y := cC l) (ZCb (y := cC l) (Zbf (fun k => (ZDc (cP l) (0, 0) l.length k, (atI l k : Int), (k : Int))) l.length ?_ (by omega) (fun k hk => ?_) ?_) rfl) ?_
  · unfold ZDc; simp [atI]
  · have g := Zec (l := l) (d := ((0 : Int), (0 : Int), (0 : Int))) hk; have u := h.at hk; have ll := Zrn (cP l) (0, 0) (n := l.length) (k := k) (by omega); have hI : atI l k < 10000 := by have := Zoh h k (by omega); omega
    have hT : tN l k < 256 := by unfold tN; omega
    have et : (g3 l k).2.1 = (tN l k : Int) := by unfold tN; omega
    obtain ⟨b, t1, t2, _⟩ := ZLj hT; have wr : IntKind.i64.wrap (g3 l k).1 = (g3 l k).1 := ZOb (Zeb.2 ⟨by omega, by omega⟩); have en : (atI l k : Int) + ((g3 l k).1 + 1) = (atI l (k + 1) : Int) := by
      show _ = ((atI l k + ((g3 l k).1.toNat + 1) : Nat) : Int); omega
    simp only; rw [decide_eq_true (by omega), ZO, Zda hk, Zf, (Z0j hI).1, Zf, ← g, show l.getD k (0, 0, 0) = g3 l k from rfl, et, t1, Zf, t2, Zf, Zda (l := ZDc (cP l) (0, 0) l.length k) (i := k) (by omega), Zf, wr, Zba (by omega) (by omega), Zf, en, Zba (by omega) (by omega), Zf, Zba (by omega) (by omega), Zf, ← ZMm (cP l) (0, 0) hk]; rfl
  · simp only; rw [decide_eq_false (by omega), ZJ, Zml]; rfl
  have R := H.rise; have hr := rise_eq H; generalize (cQ l).drop (loI (cQ l) (cQ l).length) = D at *; have z0 := R.szs 0 R.n0; have hh := ZPg R; have zh := R.szs _ hh; have lh := R.low _ hh; have eC : ZLf (cC l) = some (((gD D 0).2, (gD D 0).1, (gD D (hiI D D.length)).2, (gD D (hiI D D.length)).1), 0) := by
    have b0 : ((0 : Int) != 0) = false := rfl; have i0 : idx D (0 : Int) = some (gD D 0) := Zcd R R.n0; unfold ZLf; rw [hr]; simp only [Zf, b0, ZJ]; rw [Zpn R, i0]; simp only [Zf]
  have eR : ∀ t, sz 200 t → Zjc (cC l) t = some (Zbb D t) := fun t ht => by
    have b0 : ((0 : Int) != 0) = false := rfl; unfold Zjc; rw [hr]; simp only [Zf, b0, ZJ]; rw [Zfn R ht]; rfl
  have rl := Z8m R; have rh := Zzk R; have rn := fun t => Zxk R (t := t); have rk := fun t => Z4h R (t := t); have rm := fun s t => Zvk R (s := s) (t := t); have rz := fun t => Zhn R (t := t); have lt0 : (gD D 0).1 ≤ (gD D (hiI D D.length)).1 := by
    rcases Nat.eq_zero_or_pos (hiI D D.length) with e | e
    · rw [e]; exact Rat.le_refl
    · exact Rat.le_of_lt (R.time 0 _ e hh)
  rw [eC, Zf]; generalize gD D 0 = lo at *; generalize gD D (hiI D D.length) = hi at *; have b0 : ((0 : Int) != 0) = false := rfl; have b5 : ((5 : Int) != 5) = false := rfl; have q1 : ZZb (1 : Int) = some 1 := rfl; have qs : ∀ x : Rat, ZHd x x = some true := fun x => by unfold ZHd; rw [decide_eq_true rfl]
  have so : sz 1 (1 : Rat) := by constructor <;> decide
  have zp := ZTg zh.2 so; simp only [b0, ZJ]; rw [ZJc z0.2 zh.2 (by omega), Zf, gt4, decide_eq_false (by grind), ZJ, ZJc z0.1 zh.1 (by omega), Zf, gt4, decide_eq_false (by grind), Zf, ZJ, eR _ (z0.2.mono (by omega)), Zf, eR _ (zh.2.mono (by omega)), Zf, q1]; simp only [Zf]; rw [Zdi zh.2 so (by omega), Zf, eR _ (zp.mono (by omega)), Zf, Zf, rl, rh, rn _ (show hi.2 < hi.2 + 1 by grind)]; simp only [b0, b5, ZJ, qs, Zf, Bool.not_true]; have za := Zhj h1; have zb := Zhj h2; unfold Z6d; simp only [Zf]; rw [show ZGc (ra.1, ra.2) = ZGc ra from rfl, show ZGc (rb.1, rb.2) = ZGc rb from rfl, ZJc za zb (by omega), Zf, gt4]; have key : ∀ s t : Rat, sz 64 s → sz 64 t → s ≤ t → (bnd (Zjc (cC l) s) fun y342 => bnd (Zjc (cC l) t) fun y370 => bnd (bnd (Z9a s hi.2) fun y473 => ifb ((y342.2 == ((0 : Int))) != (decide (y473 ≤ (0 : Int)))) (some true) (bnd (Z9a t hi.2) fun y481 => some ((y370.2 == ((0 : Int))) != (decide (y481 ≤ (0 : Int)))))) (fun (x401 : Bool) => (ifb (x401) (some false) (bnd (ifb (y342.2 != ((0 : Int))) (some true) (ifb (y370.2 != ((0 : Int))) (some true) (bnd (Z9a y342.1 y370.1) fun y437 => ifb (decide (y437 ≤ (0 : Int))) (some true) (some false)))) (fun (x415 : Bool) => (some x415)))))) = some true := fun s t zs zt hst => by
    rw [eR _ (zs.mono (by omega)), Zf, eR _ (zt.mono (by omega)), Zf, ZJc zs zh.2 (by omega), Zf, le4, ZJc zt zh.2 (by omega), Zf, le4]; have cd : ∀ x, ((Zbb D x).2 == (0 : Int)) = decide (x ≤ hi.2) := fun x => by
      by_cases hx : x ≤ hi.2
      · rw [(rk x hx).2, decide_eq_true hx]; rfl
      · rw [rn x (by grind), decide_eq_false hx]; rfl
    rw [cd, cd]; simp only [bne_self_eq_false, ZJ, Zf]; rw [show ((Zbb D s).2 != (0 : Int)) = !decide (s ≤ hi.2) by rw [← cd]; rfl, show ((Zbb D t).2 != (0 : Int)) = !decide (t ≤ hi.2) by rw [← cd]; rfl]; by_cases h4 : t ≤ hi.2
    · have h3 := Rat.le_trans hst h4; rw [decide_eq_true h4, decide_eq_true h3]; simp only [Bool.not_true, ZJ]; rw [ZJc (rz s (zs.mono (by omega))) (rz t (zt.mono (by omega))) (by omega), Zf, le4, decide_eq_true (rm s t hst h4), ZO, Zf]
    · rw [decide_eq_false h4]; by_cases h3 : s ≤ hi.2
      · rw [decide_eq_true h3]; rfl
      · rw [decide_eq_false h3]; rfl
  by_cases hc : ZGc rb < ZGc ra
  · rw [decide_eq_true hc, ZO]; simp only [Zf]; exact key _ _ zb za (Rat.le_of_lt hc)
  · rw [decide_eq_false hc, ZJ]; simp only [Zf]; exact key _ _ za zb (by grind)
theorem Zjl {α : Type} {A : Rep α} {v : Zd} {cs : List Value} {l : List α} (h : (ZK A).rel v cs l) {x : α} (hx : x ∈ l) : ∃ c, A.rel v c x := by
  obtain ⟨q, cap, rfl, h1, h2, h3⟩ := h; rcases h3 with rfl | ⟨b, off, c, T, fr, e, hb, hr⟩
  · cases hx
  · obtain ⟨i, hi, rfl⟩ := List.getElem_of_mem hx; exact ⟨_, ZKa hr (List.getElem?_eq_getElem hi)⟩
theorem Zni {v : Zd} {c : List Value} {r : Int × Int} (h : Rep.rel (Zt (Ze .i64) (Ze .i64)) v c r) : i64 r := by
  obtain ⟨c1, c2, _, ⟨_, h1⟩, _, h2⟩ := h; exact ⟨Zeb.1 h1, Zeb.1 h2⟩
end Go.Eng
namespace Go.Eng
open Go.RowKit Go.WideShapes Go.ChangeShapes
theorem Z8k {P : Program} {t : TypeId} {f0 f1 f2 : Field} {α β γ : Type} {A : Rep α} {B : Rep β} {C : Rep γ} (ht : P.underlying t = some (.struct #[f0, f1, f2])) (hA : Z4b P f0.type A) (hB : Z4b P f1.type B) (hC : Z4b P f2.type C)
    (o0 : f0.offset = 0) (c0 : P.cellsOf f0.type = A.n) (o1 : f1.offset = A.n) (c1 : P.cellsOf f1.type = B.n) (o2 : f2.offset = A.n + B.n) (c2 : P.cellsOf f2.type = C.n) (ct : P.cellsOf t = A.n + B.n + C.n) : Z4b P t (Zt A (Zt B C)) := by
  intro H enc W fuel cs x h; obtain ⟨xs, n, _, _, hl, hx, hf⟩ := DataW.trod_struct ht h; have hx : xs.length = 3 := hx; have h0 := hf 0 f0 rfl; have h1 := hf 1 f1 rfl; have h2 := hf 2 f2 rfl; rw [List.getElem?_eq_getElem (by omega)] at h0 h1 h2; rw [o0, c0, List.drop_zero] at h0; rw [o1, c1] at h1; rw [o2, c2] at h2; obtain ⟨a, ha⟩ := hA _ _ _ _ _ _ h0; obtain ⟨b, hb⟩ := hB _ _ _ _ _ _ h1; obtain ⟨c, hc⟩ := hC _ _ _ _ _ _ h2; rw [List.take_of_length_le (by rw [List.length_drop, hl, ct]; omega)] at hc; refine ⟨(a, b, c), cs.take A.n, cs.drop A.n, (List.take_append_drop _ _).symm, ha, (cs.drop A.n).take B.n, cs.drop (A.n + B.n), ?_, hb, hc⟩; rw [← List.drop_drop, List.take_append_drop]
end Go.Eng
namespace Go.Eng
open Go.RowKit
theorem Zg {α : Type _} {a b : α} (h : some a = some b) : a = b := Option.some.inj h
theorem Zx (b : Bool) : b = true ∨ b = false := (Bool.eq_false_or_eq_true b)
theorem leT {a b c : Zd} (h : a.le b) (k : b.le c) : a.le c := Zd.le_trans h k
theorem leR (v : Zd) : v.le v := Zd.le_refl v
theorem Zm {P : Program} {Q : Exit → Act → World → Prop} {a : Act} {w : World} {id : Nat} {l : List Oper} (h : wpList P l.toArray Q l a w) : (Code.region id l.toArray false).wp P Q a w := wp_region_lit h
theorem Zh {P : Program} {Q : Exit → Act → World → Prop} {a : Act} {w : World} {x y : Code} (h : ∀ K : Act → World → Prop, (∀ a w, y.wp P Q a w → K a w) → x.wp P (Exit.then K Q) a w) : (Code.seq x y).wp P Q a w := wp_seq_k h
theorem Zp {α : Type} {A : Rep α} {v v' : Zd} {cs : List Value} {x : α} (hv : v.le v') (h : A.rel v cs x) : A.rel v' cs x := A.mono hv h
theorem ZX {α : Type} (A : Rep α) {v : Zd} {cs : List Value} {x : α} (h : A.rel v cs x) : cs.all ZEa = true := A.flat h
theorem Atm {v v' : Zd} {b off : Nat} {cs : List Value} (h : v.le v') (k : At v b off cs) : At v' b off cs := At.mono h k
end Go.Eng
namespace Go.Eng
open Go.Proofs Go.RowKit
theorem ZPj : ArrOf Try.prog 115 20 1 := ⟨5, fun _ => by kernel_rfl, fun _ => by kernel_rfl⟩
theorem ZYi : Zme Try.prog 2 86 .i64 .u64 := fun _ _ => by kernel_rfl
theorem ZWl : Zme Try.prog 3 114 .i64 .u64 := fun _ _ => by kernel_rfl
theorem Zlk : Zme Try.prog 3 86 .i64 .u64 := fun _ _ => by kernel_rfl
theorem ZEi : Zme Try.prog 5 3 .u8 .i64 := fun _ _ => by kernel_rfl
theorem Zmj : Zme Try.prog 86 3 .u64 .i64 := fun _ _ => by kernel_rfl
theorem ZGj : Zme Try.prog 86 5 .u64 .u8 := fun _ _ => by kernel_rfl
theorem k_el26 : Elem Try.prog 26 31 2 8 (Value.agg #[Value.float FloatKind.f32 0, Value.float FloatKind.f32 0]) := ⟨Try.underlying26, by kernel_rfl, rfl, by decide⟩
theorem ZRb : Elem Try.prog 33 86 1 8 (Value.int IntKind.u64 0) := ⟨Try.underlying33, by kernel_rfl, rfl, by decide⟩
theorem k_el53 : Elem Try.prog 53 52 6 112 (Value.agg #[Value.bool false, Value.slice none 0 0, Value.slice none 0 0, Value.bool false, Value.slice none 0 0, Value.slice none 0 0]) := ⟨Try.underlying53, by kernel_rfl, rfl, by decide⟩
theorem Zhk : Elem Try.prog 59 63 6 112 (Value.agg #[Value.bool false, Value.slice none 0 0, Value.slice none 0 0, Value.bool false, Value.slice none 0 0, Value.slice none 0 0]) := ⟨Try.underlying59, by kernel_rfl, rfl, by decide⟩
theorem Z2i : Elem Try.prog 95 9 1 16 (Value.string (Z2 [])) := ⟨Try.underlying95, by kernel_rfl, rfl, by decide⟩
theorem Zrh : ZQ Try.prog 10 := fun _ _ => by kernel_rfl
theorem ZSi : ZQ Try.prog 11 := fun _ _ => by kernel_rfl
theorem k_en12 : ZQ Try.prog 12 := fun _ _ => by kernel_rfl
theorem ZSd : ZQ Try.prog 13 := fun _ _ => by kernel_rfl
theorem ZTi : ZQ Try.prog 14 := fun _ _ => by kernel_rfl
theorem k_en15 : ZQ Try.prog 15 := fun _ _ => by kernel_rfl
theorem Zld : ZQ Try.prog 16 := fun _ _ => by kernel_rfl
theorem Zwd : ZQ Try.prog 17 := fun _ _ => by kernel_rfl
theorem k_en18 : ZQ Try.prog 18 := fun _ _ => by kernel_rfl
theorem ZOd : ZQ Try.prog 19 := fun _ _ => by kernel_rfl
theorem Zmf : ZQ Try.prog 20 := fun _ _ => by kernel_rfl
theorem Zhf : ZQ Try.prog 21 := fun _ _ => by kernel_rfl
theorem k_en22 : ZQ Try.prog 22 := fun _ _ => by kernel_rfl
theorem ZUe : ZQ Try.prog 23 := fun _ _ => by kernel_rfl
theorem Ztg : ZQ Try.prog 24 := fun _ _ => by kernel_rfl
theorem Zge : ZQ Try.prog 25 := fun _ _ => by kernel_rfl
theorem k_en26 : ZQ Try.prog 26 := fun _ _ => by kernel_rfl
theorem k_en27 : ZQ Try.prog 27 := fun _ _ => by kernel_rfl
theorem k_en28 : ZQ Try.prog 28 := fun _ _ => by kernel_rfl
theorem ZFj : ZQ Try.prog 29 := fun _ _ => by kernel_rfl
theorem Z9j : ZQ Try.prog 30 := fun _ _ => by kernel_rfl
theorem k_en31 : ZQ Try.prog 31 := fun _ _ => by kernel_rfl
theorem k_en32 : ZQ Try.prog 32 := fun _ _ => by kernel_rfl
theorem k_en33 : ZQ Try.prog 33 := fun _ _ => by kernel_rfl
theorem k_en34 : ZQ Try.prog 34 := fun _ _ => by kernel_rfl
theorem k_en35 : ZQ Try.prog 35 := fun _ _ => by kernel_rfl
theorem k_en36 : ZQ Try.prog 36 := fun _ _ => by kernel_rfl
theorem ZLc : ZQ Try.prog 37 := fun _ _ => by kernel_rfl
theorem Z5h : ZQ Try.prog 38 := fun _ _ => by kernel_rfl
theorem ZVd : ZQ Try.prog 39 := fun _ _ => by kernel_rfl
theorem ZRg : ZQ Try.prog 4 := fun _ _ => by kernel_rfl
theorem k_en40 : ZQ Try.prog 40 := fun _ _ => by kernel_rfl
theorem ZUg : ZQ Try.prog 41 := fun _ _ => by kernel_rfl
theorem Zth : ZQ Try.prog 42 := fun _ _ => by kernel_rfl
theorem ZWc : ZQ Try.prog 43 := fun _ _ => by kernel_rfl
theorem k_en44 : ZQ Try.prog 44 := fun _ _ => by kernel_rfl
theorem ZWi : ZQ Try.prog 45 := fun _ _ => by kernel_rfl
theorem Zph : ZQ Try.prog 46 := fun _ _ => by kernel_rfl
theorem ZCc : ZQ Try.prog 48 := fun _ _ => by kernel_rfl
theorem k_en49 : ZQ Try.prog 49 := fun _ _ => by kernel_rfl
theorem k_en5 : ZQ Try.prog 5 := fun _ _ => by kernel_rfl
theorem Z3f : ZQ Try.prog 50 := fun _ _ => by kernel_rfl
theorem ZZi : ZQ Try.prog 51 := fun _ _ => by kernel_rfl
theorem k_en52 : ZQ Try.prog 52 := fun _ _ => by kernel_rfl
theorem k_en53 : ZQ Try.prog 53 := fun _ _ => by kernel_rfl
theorem k_en54 : ZQ Try.prog 54 := fun _ _ => by kernel_rfl
theorem k_en55 : ZQ Try.prog 55 := fun _ _ => by kernel_rfl
theorem k_en56 : ZQ Try.prog 56 := fun _ _ => by kernel_rfl
theorem k_en57 : ZQ Try.prog 57 := fun _ _ => by kernel_rfl
theorem k_en58 : ZQ Try.prog 58 := fun _ _ => by kernel_rfl
theorem k_en59 : ZQ Try.prog 59 := fun _ _ => by kernel_rfl
theorem ZHb : ZQ Try.prog 6 := fun _ _ => by kernel_rfl
theorem Zgk : ZQ Try.prog 60 := fun _ _ => by kernel_rfl
theorem Z0g : ZQ Try.prog 61 := fun _ _ => by kernel_rfl
theorem k_en62 : ZQ Try.prog 62 := fun _ _ => by kernel_rfl
theorem k_en63 : ZQ Try.prog 63 := fun _ _ => by kernel_rfl
theorem k_en65 : ZQ Try.prog 65 := fun _ _ => by kernel_rfl
theorem Zdk : ZQ Try.prog 66 := fun _ _ => by kernel_rfl
theorem Zbd : ZQ Try.prog 7 := fun _ _ => by kernel_rfl
theorem ZCg : ZQ Try.prog 72 := fun _ _ => by kernel_rfl
theorem ZNf : ZQ Try.prog 73 := fun _ _ => by kernel_rfl
theorem k_en74 : ZQ Try.prog 74 := fun _ _ => by kernel_rfl
theorem k_en75 : ZQ Try.prog 75 := fun _ _ => by kernel_rfl
theorem k_en76 : ZQ Try.prog 76 := fun _ _ => by kernel_rfl
theorem k_en77 : ZQ Try.prog 77 := fun _ _ => by kernel_rfl
theorem ZFc : ZQ Try.prog 8 := fun _ _ => by kernel_rfl
theorem ZXj : ZQ Try.prog 82 := fun _ _ => by kernel_rfl
theorem k_en84 : ZQ Try.prog 84 := fun _ _ => by kernel_rfl
theorem k_en86 : ZQ Try.prog 86 := fun _ _ => by kernel_rfl
theorem ZMc : ZQ Try.prog 9 := fun _ _ => by kernel_rfl
theorem ZLi : ZQ Try.prog 90 := fun _ _ => by kernel_rfl
theorem k_en91 : ZQ Try.prog 91 := fun _ _ => by kernel_rfl
theorem ZZj : ZQ Try.prog 92 := fun _ _ => by kernel_rfl
theorem Z5g : EqB Try.prog 4 := fun _ _ _ => by kernel_rfl
theorem ZHf : ZPc Try.prog 47 add64Entry := ⟨_, Try.func47, by kernel_rfl, by kernel_rfl, by kernel_rfl, by kernel_rfl⟩
theorem Zhi : ZPc Try.prog 64 Z8h := ⟨_, Try.func64, by kernel_rfl, by kernel_rfl, by kernel_rfl, by kernel_rfl⟩
theorem ZEf : ZPc Try.prog 88 Extern.MathFloatBits.float64frombits := ⟨_, Try.func88, by kernel_rfl, by kernel_rfl, by kernel_rfl, by kernel_rfl⟩
theorem Zif : ZPc Try.prog 89 Extern.MathFloatBits.float64bits := ⟨_, Try.func89, by kernel_rfl, by kernel_rfl, by kernel_rfl, by kernel_rfl⟩
theorem Zli : Z1a Try.prog 24 0 0 := fun _ _ _ => by kernel_rfl
theorem Zpi : Z1a Try.prog 24 1 1 := fun _ _ _ => by kernel_rfl
theorem Zrm : Z1a Try.prog 28 0 0 := fun _ _ _ => by kernel_rfl
theorem Zrk : Z1a Try.prog 28 1 1 := fun _ _ _ => by kernel_rfl
theorem Zjm : Z1a Try.prog 31 0 0 := fun _ _ _ => by kernel_rfl
theorem Ztm : Z1a Try.prog 31 1 1 := fun _ _ _ => by kernel_rfl
theorem ZIa : Z1a Try.prog 35 0 0 := fun _ _ _ => by kernel_rfl
theorem ZGa : Z1a Try.prog 35 1 1 := fun _ _ _ => by kernel_rfl
theorem ZAa : Z1a Try.prog 37 0 0 := fun _ _ _ => by kernel_rfl
theorem Z7a : Z1a Try.prog 37 1 2 := fun _ _ _ => by kernel_rfl
theorem ZOh : Z1a Try.prog 39 0 0 := fun _ _ _ => by kernel_rfl
theorem Zqh : Z1a Try.prog 39 1 3 := fun _ _ _ => by kernel_rfl
theorem ZYb : Z1a Try.prog 39 2 6 := fun _ _ _ => by kernel_rfl
theorem ZCi : Z1a Try.prog 39 3 9 := fun _ _ _ => by kernel_rfl
theorem Z7d : Z1a Try.prog 52 0 0 := fun _ _ _ => by kernel_rfl
theorem ZEg : Z1a Try.prog 52 1 3 := fun _ _ _ => by kernel_rfl
theorem ZDi : Z1a Try.prog 55 0 0 := fun _ _ _ => by kernel_rfl
theorem Zxg : Z1a Try.prog 55 1 3 := fun _ _ _ => by kernel_rfl
theorem Zab : Z1a Try.prog 63 0 0 := fun _ _ _ => by kernel_rfl
theorem Z3a : Z1a Try.prog 63 1 3 := fun _ _ _ => by kernel_rfl
theorem Zja : Try.prog.follows .mixedOrders = true := by kernel_rfl
theorem ZLd : NeB Try.prog 4 := fun _ _ _ => by kernel_rfl
theorem ZZd : Zdc Try.prog 22 28 3 := ⟨fun _ => by kernel_rfl, fun _ => by kernel_rfl⟩
theorem Zye : Zdc Try.prog 26 31 2 := ⟨fun _ => by kernel_rfl, fun _ => by kernel_rfl⟩
theorem ZI : Zdc Try.prog 33 86 1 := ⟨fun _ => by kernel_rfl, fun _ => by kernel_rfl⟩
theorem ZYd : Zdc Try.prog 53 52 6 := ⟨fun _ => by kernel_rfl, fun _ => by kernel_rfl⟩
theorem Z0a : Zdc Try.prog 59 63 6 := ⟨fun _ => by kernel_rfl, fun _ => by kernel_rfl⟩
theorem ZDh : Zdc Try.prog 95 9 1 := ⟨fun _ => by kernel_rfl, fun _ => by kernel_rfl⟩
theorem Z1g : Sized Try.prog 2 1 false := ⟨fun _ => by kernel_rfl, fun _ => by kernel_rfl⟩
theorem ZYc : Sized Try.prog 24 2 true := ⟨fun _ => by kernel_rfl, fun _ => by kernel_rfl⟩
theorem ZAi : Sized Try.prog 28 3 true := ⟨fun _ => by kernel_rfl, fun _ => by kernel_rfl⟩
theorem Zbi : Sized Try.prog 29 1 false := ⟨fun _ => by kernel_rfl, fun _ => by kernel_rfl⟩
theorem Z7h : Sized Try.prog 31 2 true := ⟨fun _ => by kernel_rfl, fun _ => by kernel_rfl⟩
theorem Z3 : Sized Try.prog 33 1 false := ⟨fun _ => by kernel_rfl, fun _ => by kernel_rfl⟩
theorem Zfa : Sized Try.prog 35 2 true := ⟨fun _ => by kernel_rfl, fun _ => by kernel_rfl⟩
theorem Zn : Sized Try.prog 37 3 true := ⟨fun _ => by kernel_rfl, fun _ => by kernel_rfl⟩
theorem ZQe : Sized Try.prog 39 12 true := ⟨fun _ => by kernel_rfl, fun _ => by kernel_rfl⟩
theorem ZHa : Sized Try.prog 4 1 false := ⟨fun _ => by kernel_rfl, fun _ => by kernel_rfl⟩
theorem k_sz5 : Sized Try.prog 5 1 false := ⟨fun _ => by kernel_rfl, fun _ => by kernel_rfl⟩
theorem Zcg : Sized Try.prog 52 6 true := ⟨fun _ => by kernel_rfl, fun _ => by kernel_rfl⟩
theorem Zch : Sized Try.prog 53 1 false := ⟨fun _ => by kernel_rfl, fun _ => by kernel_rfl⟩
theorem Zjd : Sized Try.prog 55 4 true := ⟨fun _ => by kernel_rfl, fun _ => by kernel_rfl⟩
theorem ZJa : Sized Try.prog 63 6 true := ⟨fun _ => by kernel_rfl, fun _ => by kernel_rfl⟩
theorem Z6 : Sized Try.prog 86 1 false := ⟨fun _ => by kernel_rfl, fun _ => by kernel_rfl⟩
theorem k_sz9 : Sized Try.prog 9 1 false := ⟨fun _ => by kernel_rfl, fun _ => by kernel_rfl⟩
theorem k_zv103 : ∀ w, (zeroValue 103).run Try.prog w = .ok (Value.agg #[Value.pointer none, Value.slice none 0 0]) w := fun _ => by kernel_rfl
theorem k_zv115 : ∀ w, (zeroValue 115).run Try.prog w = .ok (Value.agg #[Value.int IntKind.u8 0, Value.int IntKind.u8 0, Value.int IntKind.u8 0, Value.int IntKind.u8 0, Value.int IntKind.u8 0, Value.int IntKind.u8 0, Value.int IntKind.u8 0, Value.int IntKind.u8 0, Value.int IntKind.u8 0, Value.int IntKind.u8 0, Value.int IntKind.u8 0, Value.int IntKind.u8 0, Value.int IntKind.u8 0, Value.int IntKind.u8 0, Value.int IntKind.u8 0, Value.int IntKind.u8 0, Value.int IntKind.u8 0, Value.int IntKind.u8 0, Value.int IntKind.u8 0, Value.int IntKind.u8 0]) w := fun _ => by kernel_rfl
theorem k_zv28 : ∀ w, (zeroValue 28).run Try.prog w = .ok (Value.agg #[Value.int IntKind.u8 0, Value.int IntKind.u8 0, Value.int IntKind.u8 0]) w := fun _ => by kernel_rfl
theorem k_zv31 : ∀ w, (zeroValue 31).run Try.prog w = .ok (Value.agg #[Value.float FloatKind.f32 0, Value.float FloatKind.f32 0]) w := fun _ => by kernel_rfl
theorem Zfc : ∀ w, (zeroValue 35).run Try.prog w = .ok (Value.agg #[Value.bool false, Value.slice none 0 0]) w := fun _ => by kernel_rfl
theorem Z0 : ∀ w, (zeroValue 37).run Try.prog w = .ok (Value.agg #[Value.bool false, Value.slice none 0 0, Value.slice none 0 0]) w := fun _ => by kernel_rfl
theorem ZPi : ∀ w, (zeroValue 39).run Try.prog w = .ok (Value.agg #[Value.bool false, Value.slice none 0 0, Value.slice none 0 0, Value.bool false, Value.slice none 0 0, Value.slice none 0 0, Value.bool false, Value.slice none 0 0, Value.slice none 0 0, Value.bool false, Value.slice none 0 0, Value.slice none 0 0]) w := fun _ => by kernel_rfl
theorem Zgi : ∀ w, (zeroValue 52).run Try.prog w = .ok (Value.agg #[Value.bool false, Value.slice none 0 0, Value.slice none 0 0, Value.bool false, Value.slice none 0 0, Value.slice none 0 0]) w := fun _ => by kernel_rfl
theorem k_zv55 : ∀ w, (zeroValue 55).run Try.prog w = .ok (Value.agg #[Value.bool false, Value.slice none 0 0, Value.slice none 0 0, Value.slice none 0 0]) w := fun _ => by kernel_rfl
theorem ZKf : ∀ w, (zeroValue 63).run Try.prog w = .ok (Value.agg #[Value.bool false, Value.slice none 0 0, Value.slice none 0 0, Value.bool false, Value.slice none 0 0, Value.slice none 0 0]) w := fun _ => by kernel_rfl
theorem cut_w {e : World} {d : Zd} (hv : VIn d e) {E : List Value} {a : (List Int)} (F : Rep.rel (ZK (Ze .u64)) d E a) {z : (List Int)} (H : ZNg a = some z) : Ret Try.prog 48 #[(ZK (Ze .u64)).val E] e d (fun y v'=>∃ G,y = (ZK (Ze .u64)).val G ∧ (ZK (Ze .u64)).rel v' G z):=by
  obtain ⟨M,N,O,rfl⟩:=Zpb F;refine ZV (K:=21) (args:=[.slice M (N) O]) hv Try.func48 rfl rfl zl fun f S=>?_;unfold ZNg at H;refine sr ?_;have S:=S.nilLoc 86 1;refine ov S rfl (Zka S (y:=.slice (mkA none) 0 0) rfl) fun f S=>oe (Zh fun _ P=>?_);obtain ⟨Q,R,T⟩:=Zb H;refine ZP (fun f w=>∃ (B : (List Int)) (j : Option Addr) (k : Nat) (l : Nat) (m : Zd),B = Q ∧ Zd.le d m ∧ St 21 e d [(0,.slice j (k) l)] [] m f w ∧ Rep.rel (ZK (Ze .u64)) m [.slice j (k) l] B) (fun _ U=>?_) ?_
  · have H:=R;refine wp_block ?_;obtain ⟨am,V,W⟩:=Zb H;have S:=S.reorder (ℓ':=[]) [] rfl (by decide);refine ZMa V (fun X f w=>∃ (n : (List Int)) (o : Option Addr) (q : Nat) (s : Nat) (g : Zd),n = X ∧ Zd.le d g ∧ St 21 e d [(0,.slice o (q) s)] [] g f w ∧ Rep.rel (ZK (Ze .u64)) g [.slice o (q) s] n) ⟨_,_,_,_,_,rfl,(leR _),(S.fr' rfl),F⟩ ?_;rintro _ f w st ⟨n,o,q,s,g,hq,I,S,c⟩ H an Y Z;subst hq;refine Zh fun _ aa=>Zh fun _ ab=>?_;obtain ⟨ac,ad,ae⟩:=Zb H;refine ZP (fun f w=>∃ (u : Bool) (C : Zd),u = ac ∧ Zd.le g C ∧ St 21 e d [(0,.slice o (q) s),(14,.bool (u))] [] C f w) (fun _ J=>?_) ?_
    · have H:=ad;rcases Zx (decide ((0 : Int) < (n.length : Int))) with h | h
      · have H:=Zw H h;obtain ⟨ao,af,H⟩:=Zb H;obtain ⟨ap,D,H⟩:=Zb H;refine Zm (mv S rfl fun f S=>ov S rfl (ZR S (ZE c) rfl rfl ZI) fun f S=>ov S rfl (Zi S rfl rfl Zya) fun f S=>?_);have S:=S.bool (t:=5) rfl h;refine mv S rfl fun f S=>opy S rfl rfl rfl rfl (Zs S rfl) fun f S=>opy S rfl rfl rfl rfl (Zs S rfl) fun f S=>opy S rfl rfl rfl rfl (ZR S (ZE c) rfl rfl ZI) fun f S=>opy S rfl rfl rfl rfl (Zi S rfl rfl (Zza af)) fun f S=>?_;obtain ⟨_,aq,ar,au,rfl,ag,ah⟩:=ZFa c (Zk D).2.1;obtain ⟨rfl,av⟩:=ah;refine opy S rfl rfl rfl rfl (ZT S rfl rfl ZI (Zk D).1 (ltI (ZE c) (Zk D).2.2.1)) fun f S=>opy S rfl rfl rfl rfl (Zoa S rfl Z6 (S.view ag)) fun f S=>opy S rfl rfl rfl rfl (Zi S rfl rfl Zpa) fun f S=>ov S rfl (ZG S (b:=true) rfl rfl) fun f S=>Zl ?_;obtain rfl:=Zg H;refine Zc (J _ _ ⟨_,_,rfl,(leR _),(S.fr' rfl)⟩)
      have H:=Zy H h;refine Zm (mv S rfl fun f S=>ov S rfl (ZR S (ZE c) rfl rfl ZI) fun f S=>ov S rfl (Zi S rfl rfl Zya) fun f S=>?_);have S:=S.bool (t:=5) rfl h;refine mv S rfl fun f S=>opn S rfl rfl rfl rfl fun f S=>opn S rfl rfl rfl rfl fun f S=>opn S rfl rfl rfl rfl fun f S=>opn S rfl rfl rfl rfl fun f S=>opn S rfl rfl rfl rfl fun f S=>opn S rfl rfl rfl rfl fun f S=>opn S rfl rfl rfl rfl fun f S=>ov S rfl (ZG S (b:=false) rfl rfl) fun f S=>Zl ?_;obtain rfl:=Zg H;refine Zc (J _ _ ⟨_,_,rfl,(leR _),(S.fr' rfl)⟩)
    rintro f w ⟨u,C,hq,v,S⟩;subst hq;have H:=ae;refine Zc (ab _ _ ?_);rcases Zx (u) with i | i
    · have H:=Zw H i;refine ZH S rfl i (wp_skip (Zc (aa _ _ (wp_block ?_))));obtain ⟨ai,aj,H⟩:=Zb H;obtain ⟨aw,x,H⟩:=Zb H;refine Zm (mv S rfl fun f S=>mv S rfl fun f S=>?_);have c:=Zp v c;refine ov S rfl (ZR S (ZE c) rfl rfl ZI) fun f S=>ov S rfl (Zi S rfl rfl (Zza aj)) fun f S=>?_;obtain ⟨ax,ay,ak,L⟩:=Zom S (A:=(Ze .u64)) (p:=(0 : Int)) (r:=ai) ZI c (Zac x).1 (Zac x).2.1 (Zac x).2.2.1;rw [← (Zac x).2.2.2.1] at L;refine ov S rfl (ak rfl (.inl ⟨rfl,rfl⟩) (.inr ⟨_,_,rfl,rfl⟩)) fun f S=>mw S rfl fun f S=>Zl (Zsa ?_);obtain rfl:=Zg H;refine Y _ rfl _ _ ⟨_,_,_,_,_,rfl,(leT I v),(S.fr' rfl),L⟩
    have H:=Zy H i;refine ZF S rfl i (wp_exit (ZZ ?_));obtain rfl:=Zg H;have hq:=Z _ rfl;subst hq;have H:=W;refine ZZ (ZBa ?_);obtain rfl:=Zg H;have c:=Zp v c;refine Zc (U _ _ ⟨_,_,_,_,_,rfl,(leT (leT (leR _) I) v),(S.fr' rfl),c⟩)
  rintro f w ⟨B,j,k,l,m,hq,az,S,al⟩;subst hq;have H:=T;refine Zc (P _ _ (sr (mv S rfl fun f S=>mw S rfl fun f S=>oe (wp_ret ?_))));obtain rfl:=Zg H;refine ZC S (ZL rfl (ZD S rfl)) ⟨[.slice j (k) l],rfl,al⟩
theorem ZAc {d : World} {b : Zd} (hv : VIn b d) {e : List Value} {a : (List Int)} (c : Rep.rel (ZK (Ze .u64)) b e a) {z : Nat} (hm : ZXa a = some z) :
    Ret Try.prog 48 #[(ZK (Ze .u64)).val e] d b (fun y v'=>∃ f,y = Zu.val f ∧ Zu.rel v' f z) :=
  by cases hm;exact cut_w hv c (cut_eq (Z6h c).1 (Z6h c).2)
theorem word_w {b : World} {a : Zd} (hv : VIn a b) {c : List Value} {n : Int} (h : Rep.rel (Ze .u64) a c n) {z : Nat} (H : ZHg n = some z) : Ret Try.prog 39 #[(Ze .u64).val c] b a (fun y v'=>∃ d,y = Zu.val d ∧ Zu.rel v' d z):=by
  obtain ⟨rfl,j⟩:=h;refine ZV (K:=6) (args:=[.int .u64 (n)]) hv Try.func39 rfl rfl zl fun f S=>?_;unfold ZHg at H;refine sr (mw S rfl fun f S=>oe (Zh fun _ k=>?_));obtain ⟨u,m,H⟩:=Zb H;refine Zm (mv S rfl fun f S=>?_);obtain ⟨e,w,o,S⟩:=Zhd S (n:=1) (cs:=[.int .u64 (n)]) (vals:=[(0,.int .u64 (n))]) (sz:=1) rfl (by decide) (Z0d ZRb (x:=.int .u64 (n)) (cs:=[.int .u64 (n)]) rfl rfl (by decide));have p : Rep.rels (Ze .u64) a [.int .u64 (n)] [n]:=(Zyc (Zv j) Zyb);refine ZWa wn rfl zl (o rfl) S fun f S=>?_;obtain ⟨v,B,S,q⟩:=S.pubSlice (i:=0) (A:=(Ze .u64)) (l:=[n]) (ℓ':=[]) rfl rfl rfl p rfl;refine opc S rfl (Zo S [.slice (mkA (some e)) (1) 1] ZCc rfl rfl) (ZAc S.vin (show Rep.rel (ZK (Ze .u64)) _ [.slice (mkA (some e)) (1) 1] ([n]) from q) m) ?_;rintro _ C f w D ⟨E,rfl,g⟩ S;obtain ⟨r,s,t,rfl⟩:=ZU g;refine mw S rfl fun f S=>Zl (Zc (k _ _ (wp_ret ?_)));obtain rfl:=Zg H;refine ZC S (ZL rfl (ZD S rfl)) ⟨[.slice r s t],rfl,g⟩
theorem Zqe {b : World} {a : Zd} (hv : VIn a b) {c : List Value} {n : Int} (e : Rep.rel (Ze .u64) a c n) {z : Nat} (hm : ZUb n = some z) :
    Ret Try.prog 39 #[(Ze .u64).val c] b a (fun y v'=>∃ d,y = Zu.val d ∧ Zu.rel v' d z) :=
  word_w hv e (ZWm hm)
theorem of_w {k : World} {j : Zd} (hv : VIn j k) {l : List Value} {n : Int} (q : Rep.rel (Ze .i64) j l n) {z : Int} (H : of_m n = some z) : Ret Try.prog 24 #[(Ze .i64).val l] k j (fun y v'=>∃ m,y = ZW.val m ∧ ZW.rel v' m z):=by
  obtain ⟨rfl,G⟩:=q;refine ZV (K:=14) (args:=[.int .i64 (n)]) hv Try.func24 rfl rfl zl fun f S=>?_;unfold of_m at H;refine sr (ZY S wn rfl zl (cs:=[.bool false,.slice none 0 0]) (ZN Zfc) fun I f w S=>oe (Zh fun _ r=>sr (mv S rfl fun f S=>ov S rfl (Zi S rfl rfl Zga) fun f S=>oe ?_)));rcases Zx (decide (n < (0 : Int))) with a | a
  · have H:=Zw H a;refine ZH S rfl a (Zh fun _ t=>?_);obtain ⟨J,u,H⟩:=Zb H;refine Zm (mv S rfl fun f S=>ov S rfl (ZLb S rfl (ZYi _)) fun f S=>ov S rfl (ZSh S rfl) fun f S=>opc S rfl (Zo S [.int .u64 (IntKind.u64.wrap (-(IntKind.u64.wrap n)))] ZVd rfl rfl) (Zqe S.vin (show Rep.rel (Ze .u64) _ [.int .u64 (IntKind.u64.wrap (-(IntKind.u64.wrap n)))] (IntKind.u64.wrap (-(IntKind.u64.wrap n))) from (Zv (ZPa _ _))) u) ?_);rintro _ L f w M ⟨N,rfl,o⟩ S;obtain ⟨b,c,d,rfl⟩:=ZU o;refine ov S rfl (ZLa S [(0,.bool (true)),(1,.slice b c d)] rfl (z:=.agg #[.bool (true),.slice b c d]) (by kernel_rfl)) fun f S=>?_;obtain ⟨w,v,S⟩:=sbp S [.bool (true),.slice b c d] Zfa 0 0 rfl;refine ZS wn rfl (v rfl rfl) (Zl (Zc (t _ _ (wp_ret (ZM ?_)))));obtain ⟨O,x,H⟩:=Zb H;have A:=Zbg (s:=true) o x;obtain rfl:=Zg H;refine ZC S (ZL rfl (ZJb S rfl Zfa rfl (S.box (i:=0) rfl 0 [.bool (true),.slice b c d] rfl))) ⟨[.bool (true),.slice b c d],rfl,A⟩
  have H:=Zy H a;refine ZF S rfl a (wp_skip (Zc (r _ _ (Zh fun _ B=>?_))));obtain ⟨P,C,H⟩:=Zb H;refine Zm (mv S rfl fun f S=>ov S rfl (ZLb S rfl (ZYi _)) fun f S=>opc S rfl (Zo S [.int .u64 (IntKind.u64.wrap n)] ZVd rfl rfl) (Zqe S.vin (show Rep.rel (Ze .u64) _ [.int .u64 (IntKind.u64.wrap n)] (IntKind.u64.wrap n) from (Zv (ZPa _ _))) C) ?_);rintro _ Q f w R ⟨T,rfl,p⟩ S;obtain ⟨e,g,h,rfl⟩:=ZU p;refine ov S rfl (ZLa S [(0,.bool (false)),(1,.slice e g h)] rfl (z:=.agg #[.bool (false),.slice e g h]) (by kernel_rfl)) fun f S=>?_;obtain ⟨w,D,S⟩:=sbp S [.bool (false),.slice e g h] Zfa 0 0 rfl;refine ZS wn rfl (D rfl rfl) (Zl (Zc (B _ _ (wp_ret ?_))));obtain ⟨U,E,H⟩:=Zb H;have F:=Zbg (s:=false) p E;obtain rfl:=Zg H;refine ZC S (ZL rfl (ZJb S rfl Zfa rfl (S.box (i:=0) rfl 0 [.bool (false),.slice e g h] rfl))) ⟨[.bool (false),.slice e g h],rfl,F⟩
theorem of_c {b : World} {a : Zd} (hv : VIn a b) {c : List Value} {n : Int} (d : Rep.rel (Ze .i64) a c n) {z : Int} (hm : ofF n = some z) :
    Ret Try.prog 24 #[(Ze .i64).val c] b a (fun y v'=>∃ e,y = ZW.val e ∧ ZW.rel v' e z) :=
  of_w hv d (ofF_eq d.2 hm)
theorem qint_w {g : World} {e : Zd} (hv : VIn e g) {h : List Value} {n : Int} (k : Rep.rel (Ze .i64) e h n) {z : Rat} (H : Z8g n = some z) : Ret Try.prog 9 #[(Ze .i64).val h] g e (fun y v'=>∃ i,y = Za.val i ∧ Za.rel v' i z):=by
  obtain ⟨rfl,l⟩:=k;refine ZV (K:=6) (args:=[.int .i64 (n)]) hv Try.func9 rfl rfl zl fun f S=>?_;unfold Z8g at H;refine sr (ZY S wn rfl zl (cs:=[.bool false,.slice none 0 0,.slice none 0 0]) (ZN Z0) fun s f w S=>oe (Zh fun _ m=>?_));obtain ⟨t,o,H⟩:=Zb H;refine Zm (mv S rfl fun f S=>opc S rfl (Zo S [.int .i64 (n)] Ztg rfl rfl) (of_c S.vin (show Rep.rel (Ze .i64) _ [.int .i64 (n)] n from (Zv l)) o) ?_);rintro _ u f w v ⟨x,rfl,j⟩ S;obtain ⟨a,b,c,d,rfl⟩:=Zwa j;refine ov S rfl (ZLa S [(0,.agg #[.bool a,.slice b c d])] rfl (z:=.agg #[.bool a,.slice b c d,.slice none 0 0]) (by kernel_rfl)) fun f S=>?_;obtain ⟨w,p,S⟩:=sbp S [.bool a,.slice b c d,.slice none 0 0] Zn 0 0 rfl;refine ZS wn rfl (p rfl rfl) (Zl (Zc (m _ _ (wp_ret ?_))));obtain ⟨A,q,H⟩:=Zb H;have r:=Zqg j (ZJd _) q;obtain rfl:=Zg H;refine ZC S (ZL rfl (Zva S rfl Zn 0 rfl rfl)) ⟨[.bool a,.slice b c d,.slice none 0 0],rfl,r⟩
theorem ZQc {b : World} {a : Zd} (hv : VIn a b) {c : List Value} {n : Int} (e : Rep.rel (Ze .i64) a c n) {z : Rat} (hm : ZZb n = some z) :
    Ret Try.prog 9 #[(Ze .i64).val c] b a (fun y v'=>∃ d,y = Za.val d ∧ Za.rel v' d z) :=
  qint_w hv e (ZEl hm)
theorem len64_w {b : World} {a : Zd} (hv : VIn a b) {q : List Value} {x : Int} (J : Rep.rel (Ze .u64) a q x) {z : Int} (H : ZXe x = some z) : Ret Try.prog 76 #[(Ze .u64).val q] b a (fun y v'=>∃ r,y = (Ze .i64).val r ∧ (Ze .i64).rel v' r z):=by
  obtain ⟨rfl,s⟩:=J;refine ZV (K:=25) (args:=[.int .u64 (x)]) hv Try.func76 rfl rfl zl fun f S=>?_;unfold ZXe at H;refine sr (mw S rfl fun f S=>oe (Zh fun _ L=>sr (mv S rfl fun f S=>ov S rfl (Zi S rfl rfl Zcb) fun f S=>oe ?_)));obtain ⟨M,N,O⟩:=Zb H;refine ZP (fun f w=>∃ (c : Int) (i : Int) (j : Zd),(c,i) = M ∧ Zd.le a j ∧ St 25 b a [(0,.int .u64 (c)),(2,.int .i64 (i))] [] j f w ∧ inR .u64 c ∧ inR .i64 i) (fun _ t=>?_) ?_
  · have H:=N;rcases Zx (decide ((4294967296 : Int) ≤ x)) with d | d
    · have H:=Zw H d;refine ZH S rfl d (Zh fun _ P=>?_);obtain ⟨ag,u,H⟩:=Zb H;refine Zm (mv S rfl fun f S=>ov S rfl (Zi S rfl rfl (Ztb u)) fun f S=>mw S rfl fun f S=>Zl (Zc (P _ _ (Zm (mw S rfl fun f S=>Zl ?_)))));obtain rfl:=Zg H;refine Zc (t _ _ ⟨_,_,_,rfl,(leR _),(S.fr' rfl),(Zbe s u),(by decide)⟩)
    have H:=Zy H d;refine ZF S rfl d (wp_skip ?_);obtain rfl:=Zg H;refine Zc (t _ _ ⟨_,_,_,rfl,(leR _),(S.fr' rfl),s,(by decide)⟩)
  rintro f w ⟨c,i,j,hq,ah,S,v,Q⟩;subst hq;have H:=O;refine Zc (L _ _ (Zh fun _ R=>sr (mv S rfl fun f S=>ov S rfl (Zi S rfl rfl Zcb) fun f S=>oe ?_)));obtain ⟨T,U,V⟩:=Zb H;refine ZP (fun f w=>∃ (e : Int) (k : Int) (m : Zd),(e,k) = T ∧ Zd.le j m ∧ St 25 b a [(0,.int .u64 (e)),(2,.int .i64 (k))] [] m f w ∧ inR .u64 e ∧ inR .i64 k) (fun _ A=>?_) ?_
  · have H:=U;rcases Zx (decide ((65536 : Int) ≤ c)) with g | g
    · have H:=Zw H g;refine ZH S rfl g (Zh fun _ W=>?_);obtain ⟨ai,B,H⟩:=Zb H;refine Zm (mv S rfl fun f S=>ov S rfl (Zi S rfl rfl (Ztb B)) fun f S=>mw S rfl fun f S=>Zl (Zc (W _ _ ?_)));obtain ⟨aj,C,H⟩:=Zb H;refine Zm (mv S rfl fun f S=>ov S rfl (Zi S rfl rfl (Zca C)) fun f S=>mw S rfl fun f S=>Zl ?_);obtain rfl:=Zg H;refine Zc (A _ _ ⟨_,_,_,rfl,(leR _),(S.fr' rfl),(Zbe v B),(Zma C).2⟩)
    have H:=Zy H g;refine ZF S rfl g (wp_skip ?_);obtain rfl:=Zg H;refine Zc (A _ _ ⟨_,_,_,rfl,(leR _),(S.fr' rfl),v,Q⟩)
  rintro f w ⟨e,k,m,hq,ak,S,D,X⟩;subst hq;have H:=V;refine Zc (R _ _ (Zh fun _ Y=>sr (mv S rfl fun f S=>ov S rfl (Zi S rfl rfl Zcb) fun f S=>oe ?_)));obtain ⟨Z,aa,ab⟩:=Zb H;refine ZP (fun f w=>∃ (n : Int) (o : Int) (p : Zd),(n,o) = Z ∧ Zd.le m p ∧ St 25 b a [(0,.int .u64 (n)),(2,.int .i64 (o))] [] p f w ∧ inR .u64 n ∧ inR .i64 o) (fun _ E=>?_) ?_
  · have H:=aa;rcases Zx (decide ((256 : Int) ≤ e)) with h | h
    · have H:=Zw H h;refine ZH S rfl h (Zh fun _ ac=>?_);obtain ⟨al,F,H⟩:=Zb H;refine Zm (mv S rfl fun f S=>ov S rfl (Zi S rfl rfl (Ztb F)) fun f S=>mw S rfl fun f S=>Zl (Zc (ac _ _ ?_)));obtain ⟨am,G,H⟩:=Zb H;refine Zm (mv S rfl fun f S=>ov S rfl (Zi S rfl rfl (Zca G)) fun f S=>mw S rfl fun f S=>Zl ?_);obtain rfl:=Zg H;refine Zc (E _ _ ⟨_,_,_,rfl,(leR _),(S.fr' rfl),(Zbe D F),(Zma G).2⟩)
    have H:=Zy H h;refine ZF S rfl h (wp_skip ?_);obtain rfl:=Zg H;refine Zc (E _ _ ⟨_,_,_,rfl,(leR _),(S.fr' rfl),D,X⟩)
  rintro f w ⟨n,o,p,hq,an,S,ao,ap⟩;subst hq;have H:=ab;refine Zc (Y _ _ (Zh fun _ ad=>?_));obtain ⟨aq,ae,H⟩:=Zb H;obtain ⟨af,I,H⟩:=Zb H;refine Zm (mv S rfl fun f S=>mv S rfl fun f S=>ov S rfl (ZLb S rfl (ZGj _)) fun f S=>ov S rfl (ZJk S (l:=([0,1,2,2,3,3,3,3,4,4,4,4,4,4,4,4,5,5,5,5,5,5,5,5,5,5,5,5,5,5,5,5,6,6,6,6,6,6,6,6,6,6,6,6,6,6,6,6,6,6,6,6,6,6,6,6,6,6,6,6,6,6,6,6,7,7,7,7,7,7,7,7,7,7,7,7,7,7,7,7,7,7,7,7,7,7,7,7,7,7,7,7,7,7,7,7,7,7,7,7,7,7,7,7,7,7,7,7,7,7,7,7,7,7,7,7,7,7,7,7,7,7,7,7,7,7,7,7,8,8,8,8,8,8,8,8,8,8,8,8,8,8,8,8,8,8,8,8,8,8,8,8,8,8,8,8,8,8,8,8,8,8,8,8,8,8,8,8,8,8,8,8,8,8,8,8,8,8,8,8,8,8,8,8,8,8,8,8,8,8,8,8,8,8,8,8,8,8,8,8,8,8,8,8,8,8,8,8,8,8,8,8,8,8,8,8,8,8,8,8,8,8,8,8,8,8,8,8,8,8,8,8,8,8,8,8,8,8,8,8,8,8,8,8,8,8,8,8,8,8,8,8,8,8,8,8] : List UInt8)) (by kernel_rfl) rfl Try.underlying9 ae) fun f S=>ov S rfl (ZLb S rfl (ZEi _)) fun f S=>ov S rfl (Zi S rfl rfl (Zca I)) fun f S=>mw S rfl fun f S=>Zl (Zc (ad _ _ (wp_ret ?_))));obtain rfl:=Zg H;refine ZC S (ZL rfl (ZD S rfl)) ⟨[.int .i64 (af)],rfl,(Zv (Zma I).2)⟩
theorem len64_c {b : World} {a : Zd} (hv : VIn a b) {c : List Value} {x : Int} (e : Rep.rel (Ze .u64) a c x) {z : Int} (hm : Zuf x = some z) :
    Ret Try.prog 76 #[(Ze .u64).val c] b a (fun y v'=>∃ d,y = (Ze .i64).val d ∧ (Ze .i64).rel v' d z) :=
  len64_w hv e (Z9m hm)
theorem lz64_w {b : World} {a : Zd} (hv : VIn a b) {c : List Value} {x : Int} (g : Rep.rel (Ze .u64) a c x) {z : Int} (H : Zkg x = some z) : Ret Try.prog 60 #[(Ze .u64).val c] b a (fun y v'=>∃ d,y = (Ze .i64).val d ∧ (Ze .i64).rel v' d z):=by
  obtain ⟨rfl,h⟩:=g;refine ZV (K:=6) (args:=[.int .u64 (x)]) hv Try.func60 rfl rfl zl fun f S=>?_;unfold Zkg at H;refine sr (mw S rfl fun f S=>oe (Zh fun _ i=>?_));obtain ⟨m,j,H⟩:=Zb H;obtain ⟨k,e,H⟩:=Zb H;refine Zm (mv S rfl fun f S=>opc S rfl (Zo S [.int .u64 (x)] k_en76 rfl rfl) (len64_c S.vin (show Rep.rel (Ze .u64) _ [.int .u64 (x)] x from (Zv h)) j) ?_);rintro _ n f w o ⟨p,rfl,l⟩ S;obtain ⟨rfl,q⟩:=l;refine ov S rfl (Zi S rfl rfl (Zza e)) fun f S=>mw S rfl fun f S=>Zl (Zc (i _ _ (wp_ret ?_)));obtain rfl:=Zg H;refine ZC S (ZL rfl (ZD S rfl)) ⟨[.int .i64 (k)],rfl,(Zv (Zma e).2)⟩
theorem Z4i {b : World} {a : Zd} (hv : VIn a b) {c : List Value} {x : Int} (e : Rep.rel (Ze .u64) a c x) {z : Int} (hm : ZZc x = some z) :
    Ret Try.prog 60 #[(Ze .u64).val c] b a (fun y v'=>∃ d,y = (Ze .i64).val d ∧ (Ze .i64).rel v' d z) :=
  lz64_w hv e (ZKl hm)
theorem div64_w {e : World} {c : Zd} (hv : VIn c e) {X : List Value} {hi : Int} (p0 : Rep.rel (Ze .u64) c X hi) {Y : List Value} {lo : Int} (p1 : Rep.rel (Ze .u64) c Y lo) {Z : List Value} {y : Int} (p2 : Rep.rel (Ze .u64) c Z y) {z : Int × Int} (H : Zyf hi lo y = some z) : Ret Try.prog 66 #[(Ze .u64).val X,(Ze .u64).val Y,(Ze .u64).val Z] e c (fun y v'=>∃ r0 M,y = .tuple #[(Ze .u64).val r0,(Ze .u64).val M] ∧ (Ze .u64).rel v' r0 z.1 ∧ (Ze .u64).rel v' M z.2):=by
  obtain ⟨rfl,M⟩:=p0;obtain ⟨rfl,r2⟩:=p1;obtain ⟨rfl,r3⟩:=p2;refine ZV (K:=135) (args:=[.int .u64 (hi),.int .u64 (lo),.int .u64 (y)]) hv Try.func66 rfl rfl zl fun f S=>?_;unfold Zyf at H;refine sr (mw S rfl fun f S=>mw S rfl fun f S=>oe (Zh fun _ an=>sr (mv S rfl fun f S=>ov S rfl (Zi S rfl rfl Zpa) fun f S=>oe ?_)));rcases Zx (y == ((0 : Int))) with q | q
  · have H:=Zw H q;refine ZH S rfl q ?_
    cases H
  have H:=Zy H q;refine ZF S rfl q (wp_skip (Zc (an _ _ (Zh fun _ ao=>sr (mv S rfl fun f S=>mv S rfl fun f S=>ov S rfl (Zi S rfl rfl Z9b) fun f S=>oe ?_)))));rcases Zx (decide (y ≤ hi)) with r | r
  · have H:=Zw H r;refine ZH S rfl r ?_
    cases H
  have H:=Zy H r;refine ZF S rfl r (wp_skip (Zc (ao _ _ (Zh fun _ ap=>sr (mv S rfl fun f S=>ov S rfl (Zi S rfl rfl Zpa) fun f S=>oe ?_)))));rcases Zx (hi == ((0 : Int))) with s | s
  · have H:=Zw H s;refine ZH S rfl s (Zh fun _ aq=>?_);obtain ⟨ar,aa,H⟩:=Zb H;obtain ⟨au,N,H⟩:=Zb H;refine Zia (fl:=#[true,true,true,true,true,true,false,false]) Zja (by kernel_rfl) S ?_;intro ops O F w S;refine rfa O F 0 rfl rfl S (Zs S rfl) fun f S=>rfa O F 1 rfl rfl S (Zs S rfl) fun f S=>rfa O F 2 rfl rfl S (Zi S rfl rfl (Zhc aa)) fun f S=>rfa O F 3 rfl rfl S (Zs S rfl) fun f S=>rfa O F 4 rfl rfl S (Zs S rfl) fun f S=>rfa O F 5 rfl rfl S (Zi S rfl rfl (ZVc N)) fun f S=>go1 O F 6 (nva [0,1,2] [3,4,5] O rfl rfl S (Zka S rfl) fun f S=>⟨(py S rfl rfl (Zs S rfl) (py S rfl rfl (Zs S rfl) (py S rfl rfl (Zi S rfl rfl (ZVc N)) Zr))),go1 O F 7 (nva [0,1,2,3,4,5,6] [] O rfl rfl S (Zka S rfl) fun f S=>⟨Zr,Z1 O F (Zc (aq _ _ ?_))⟩)⟩);refine wp_ret (ZM ?_);obtain rfl:=Zg H;refine ZC S (Zqa rfl (ZD S rfl) (ZD S rfl)) ⟨[.int .u64 (ar)],[.int .u64 (au)],rfl,(Zv (Zah aa)),(Zv (ZIj r2 N))⟩
  have H:=Zy H s;refine ZF S rfl s (wp_skip (Zc (ap _ _ (Zh fun _ av=>?_))));obtain ⟨h,aw,H⟩:=Zb H;refine Zm (mv S rfl fun f S=>opc S rfl (Zo S [.int .u64 (y)] Zgk rfl rfl) (Z4i S.vin (show Rep.rel (Ze .u64) _ [.int .u64 (y)] y from (Zv r3)) aw) ?_);rintro _ ab f w bd ⟨be,rfl,ax⟩ S;obtain ⟨rfl,bf⟩:=ax;refine ov S rfl (ZLb S rfl (ZWl _)) fun f S=>mw S rfl fun f S=>Zl (Zc (av _ _ (Zh fun _ ay=>?_)));obtain ⟨a,az,H⟩:=Zb H;refine Zm (mv S rfl fun f S=>mv S rfl fun f S=>ov S rfl (Zi S rfl rfl (Zle az)) fun f S=>mw S rfl fun f S=>Zl (Zc (ay _ _ (Zh fun _ aA=>?_))));obtain ⟨g,aB,H⟩:=Zb H;refine Zm (mv S rfl fun f S=>ov S rfl (Zi S rfl rfl (Ztb aB)) fun f S=>mw S rfl fun f S=>Zl (Zc (aA _ _ (sr (mv S rfl fun f S=>ov S rfl (Zi S rfl rfl Zqd) fun f S=>mw S rfl fun f S=>oe (Zh fun _ aC=>?_))))));obtain ⟨i,aD,H⟩:=Zb H;obtain ⟨j,aE,H⟩:=Zb H;refine Zm (mv S rfl fun f S=>mv S rfl fun f S=>ov S rfl (Zi S rfl rfl (Zle aD)) fun f S=>mv S rfl fun f S=>mv S rfl fun f S=>ov S rfl (Zi S rfl rfl ZXc) fun f S=>ov S rfl (Zi S rfl rfl (Ztb aE)) fun f S=>ov S rfl (Zi S rfl rfl Zte) fun f S=>mw S rfl fun f S=>Zl ?_);have S:=S.fr' (σ':=[(1,.int .u64 (lo)),(2,.int .u64 (a)),(8,.int .u64 (IntKind.u64.wrap h)),(9,.int .u64 (g)),(10,.int .u64 (Zea .u64 a ((4294967295 : Int)))),(11,.int .u64 (orI .u64 i j))]) rfl
  refine Zc (aC _ _ (Zh fun _ aF=>?_));obtain ⟨k,aG,H⟩:=Zb H;refine Zm (mv S rfl fun f S=>mv S rfl fun f S=>ov S rfl (Zi S rfl rfl (Zle aG)) fun f S=>mw S rfl fun f S=>Zl (Zc (aF _ _ (Zh fun _ aH=>?_))));obtain ⟨l,aI,H⟩:=Zb H;refine Zm (mv S rfl fun f S=>ov S rfl (Zi S rfl rfl (Ztb aI)) fun f S=>mw S rfl fun f S=>Zl (Zc (aH _ _ (sr (mv S rfl fun f S=>ov S rfl (Zi S rfl rfl Zqd) fun f S=>mw S rfl fun f S=>oe (Zh fun _ aJ=>?_))))));obtain ⟨bg,ac,H⟩:=Zb H;refine Zm (mv S rfl fun f S=>mv S rfl fun f S=>ov S rfl (Zi S rfl rfl (Zhc ac)) fun f S=>mw S rfl fun f S=>Zl (Zc (aJ _ _ (sr (mv S rfl fun f S=>mv S rfl fun f S=>mv S rfl fun f S=>ov S rfl (Zi S rfl rfl Zqb) fun f S=>ov S rfl (Zi S rfl rfl ZXc) fun f S=>mw S rfl fun f S=>?_)))));refine oe (Zh fun _ aK=>?_);obtain ⟨aL,aM,aN⟩:=Zb H;refine ZP (fun f w=>∃ (d : Int) (u : Zd),d = aL ∧ Zd.le ab u ∧ St 135 e c [(2,.int .u64 (a)),(8,.int .u64 (IntKind.u64.wrap h)),(9,.int .u64 (g)),(10,.int .u64 (Zea .u64 a ((4294967295 : Int)))),(11,.int .u64 (orI .u64 i j)),(13,.int .u64 (l)),(14,.int .u64 (Zea .u64 k ((4294967295 : Int)))),(15,.int .u64 (d))] [] u f w ∧ inR .u64 d) (fun _ ad=>?_) ?_
  · have H:=aM;refine wp_block ?_;obtain ⟨bh,aO,ae⟩:=Zb H;refine ZMa aO (fun aP f w=>∃ (m : Int) (n : Int) (G : Zd),(m,n) = aP ∧ Zd.le ab G ∧ St 135 e c [(2,.int .u64 (a)),(8,.int .u64 (IntKind.u64.wrap h)),(9,.int .u64 (g)),(10,.int .u64 (Zea .u64 a ((4294967295 : Int)))),(11,.int .u64 (orI .u64 i j)),(13,.int .u64 (l)),(14,.int .u64 (Zea .u64 k ((4294967295 : Int)))),(15,.int .u64 (m)),(16,.int .u64 (n))] [] G f w ∧ inR .u64 m ∧ inR .u64 n) ⟨_,_,_,rfl,(leR _),(S.fr' rfl),(Zah ac),(ZPa _ _)⟩ ?_;rintro _ f w st ⟨m,n,G,hq,P,S,aQ,bi⟩ H bj aR af;subst hq;refine Zh fun _ aS=>Zh fun _ aT=>?_;obtain ⟨aU,aV,aW⟩:=Zb H;refine ZP (fun f w=>∃ (I : Bool) (Q : Zd),I = aU ∧ Zd.le G Q ∧ St 135 e c [(2,.int .u64 (a)),(8,.int .u64 (IntKind.u64.wrap h)),(9,.int .u64 (g)),(10,.int .u64 (Zea .u64 a ((4294967295 : Int)))),(11,.int .u64 (orI .u64 i j)),(13,.int .u64 (l)),(14,.int .u64 (Zea .u64 k ((4294967295 : Int)))),(15,.int .u64 (m)),(16,.int .u64 (n)),(78,.bool (I))] [] Q f w) (fun _ ag=>?_) ?_
    · have H:=aV;rcases Zx (decide ((4294967296 : Int) ≤ m)) with v | v
      · have H:=Zw H v;refine Zm (mv S rfl fun f S=>ov S rfl (Zi S rfl rfl Zcb) fun f S=>?_);have S:=S.bool (t:=68) rfl v;refine mv S rfl fun f S=>opn S rfl rfl rfl rfl fun f S=>opn S rfl rfl rfl rfl fun f S=>opn S rfl rfl rfl rfl fun f S=>opn S rfl rfl rfl rfl fun f S=>opn S rfl rfl rfl rfl fun f S=>opn S rfl rfl rfl rfl fun f S=>opn S rfl rfl rfl rfl fun f S=>opn S rfl rfl rfl rfl fun f S=>ov S rfl (ZG S (b:=true) rfl rfl) fun f S=>Zl ?_;obtain rfl:=Zg H;refine Zc (ag _ _ ⟨_,_,rfl,(leR _),(S.fr' rfl)⟩)
      have H:=Zy H v;refine Zm (mv S rfl fun f S=>ov S rfl (Zi S rfl rfl Zcb) fun f S=>?_);have S:=S.bool (t:=68) rfl v;refine mv S rfl fun f S=>opy S rfl rfl rfl rfl (Zs S rfl) fun f S=>opy S rfl rfl rfl rfl (Zs S rfl) fun f S=>opy S rfl rfl rfl rfl (Zi S rfl rfl Zqb) fun f S=>opy S rfl rfl rfl rfl (Zs S rfl) fun f S=>opy S rfl rfl rfl rfl (Zi S rfl rfl Zqb) fun f S=>opy S rfl rfl rfl rfl (Zs S rfl) fun f S=>opy S rfl rfl rfl rfl (Zi S rfl rfl Zzb) fun f S=>opy S rfl rfl rfl rfl (Zi S rfl rfl Zya) fun f S=>ov S rfl (ZG S (b:=false) rfl rfl) fun f S=>Zl ?_;obtain rfl:=Zg H;refine Zc (ag _ _ ⟨_,_,rfl,(leR _),(S.fr' rfl)⟩)
    rintro f w ⟨I,Q,hq,R,S⟩;subst hq;have H:=aW;refine Zc (aT _ _ ?_);rcases Zx (I) with x | x
    · have H:=Zw H x;refine ZH S rfl x (wp_skip (Zc (aS _ _ (wp_block (sr (mv S rfl fun f S=>ov S rfl (Zi S rfl rfl ZXc) fun f S=>mw S rfl fun f S=>oe (sr (mv S rfl fun f S=>mv S rfl fun f S=>ov S rfl (Zi S rfl rfl Zzb) fun f S=>mw S rfl fun f S=>?_))))))));refine oe (sr (mv S rfl fun f S=>ov S rfl (Zi S rfl rfl Zcb) fun f S=>oe ?_));rcases Zx (decide ((4294967296 : Int) ≤ IntKind.u64.wrap (n + g))) with A | A
      · have H:=Zw H A;refine ZH S rfl A (wp_exit (Z4f rfl ?_));obtain rfl:=Zg H;have hq:=af _ rfl;subst hq;have H:=ae;refine ZZ (ZBa ?_);obtain rfl:=Zg H;refine Zc (ad _ _ ⟨_,_,rfl,(leT (leT (leR _) P) R),(S.fr' rfl),(ZPa _ _)⟩)
      have H:=Zy H A;refine ZF S rfl A (wp_skip (Zsa ?_));obtain rfl:=Zg H;refine aR _ rfl _ _ ⟨_,_,_,rfl,(leT P R),(S.fr' rfl),(ZPa _ _),(ZPa _ _)⟩
    have H:=Zy H x;refine ZF S rfl x (wp_exit (ZZ ?_));obtain rfl:=Zg H;have hq:=af _ rfl;subst hq;have H:=ae;refine ZZ (ZBa ?_);obtain rfl:=Zg H;refine Zc (ad _ _ ⟨_,_,rfl,(leT (leT (leR _) P) R),(S.fr' rfl),aQ⟩)
  rintro f w ⟨d,u,hq,bk,S,bm⟩;subst hq;have H:=aN;refine Zc (aK _ _ (sr (mv S rfl fun f S=>ov S rfl (Zi S rfl rfl Zqb) fun f S=>mv S rfl fun f S=>ov S rfl (Zi S rfl rfl Zzb) fun f S=>mv S rfl fun f S=>mv S rfl fun f S=>ov S rfl (Zi S rfl rfl Zqb) fun f S=>ov S rfl (Zi S rfl rfl ZXc) fun f S=>mw S rfl fun f S=>oe (Zh fun _ aX=>?_))));obtain ⟨bn,ah,H⟩:=Zb H;refine Zm (mv S rfl fun f S=>mv S rfl fun f S=>ov S rfl (Zi S rfl rfl (Zhc ah)) fun f S=>mw S rfl fun f S=>Zl (Zc (aX _ _ (sr (mv S rfl fun f S=>mv S rfl fun f S=>mv S rfl fun f S=>ov S rfl (Zi S rfl rfl Zqb) fun f S=>ov S rfl (Zi S rfl rfl ZXc) fun f S=>mw S rfl fun f S=>?_)))));refine oe (Zh fun _ aY=>?_);obtain ⟨aZ,a0,a1⟩:=Zb H;refine ZP (fun f w=>∃ (B : Int) (T : Zd),B = aZ ∧ Zd.le u T ∧ St 135 e c [(2,.int .u64 (a)),(8,.int .u64 (IntKind.u64.wrap h)),(14,.int .u64 (Zea .u64 k ((4294967295 : Int)))),(15,.int .u64 (d)),(17,.int .u64 (IntKind.u64.wrap ((IntKind.u64.wrap ((IntKind.u64.wrap ((orI .u64 i j) * ((4294967296 : Int)))) + l)) - (IntKind.u64.wrap (d * a))))),(18,.int .u64 (B))] [] T f w ∧ inR .u64 B) (fun _ ai=>?_) ?_
  · have H:=a0;refine wp_block ?_;obtain ⟨bo,a2,aj⟩:=Zb H;refine ZMa a2 (fun a3 f w=>∃ (o : Int) (p : Int) (J : Zd),(o,p) = a3 ∧ Zd.le u J ∧ St 135 e c [(2,.int .u64 (a)),(8,.int .u64 (IntKind.u64.wrap h)),(9,.int .u64 (g)),(10,.int .u64 (Zea .u64 a ((4294967295 : Int)))),(14,.int .u64 (Zea .u64 k ((4294967295 : Int)))),(15,.int .u64 (d)),(16,.int .u64 (o)),(17,.int .u64 (IntKind.u64.wrap ((IntKind.u64.wrap ((IntKind.u64.wrap ((orI .u64 i j) * ((4294967296 : Int)))) + l)) - (IntKind.u64.wrap (d * a))))),(18,.int .u64 (p))] [] J f w ∧ inR .u64 o ∧ inR .u64 p) ⟨_,_,_,rfl,(leR _),(S.fr' rfl),(ZPa _ _),(Zah ah)⟩ ?_;rintro _ f w st ⟨o,p,J,hq,U,S,bp,a4⟩ H bq a5 ak;subst hq;refine Zh fun _ a6=>Zh fun _ a7=>?_;obtain ⟨a8,a9,ba⟩:=Zb H;refine ZP (fun f w=>∃ (L : Bool) (V : Zd),L = a8 ∧ Zd.le J V ∧ St 135 e c [(2,.int .u64 (a)),(8,.int .u64 (IntKind.u64.wrap h)),(9,.int .u64 (g)),(10,.int .u64 (Zea .u64 a ((4294967295 : Int)))),(14,.int .u64 (Zea .u64 k ((4294967295 : Int)))),(15,.int .u64 (d)),(16,.int .u64 (o)),(17,.int .u64 (IntKind.u64.wrap ((IntKind.u64.wrap ((IntKind.u64.wrap ((orI .u64 i j) * ((4294967296 : Int)))) + l)) - (IntKind.u64.wrap (d * a))))),(18,.int .u64 (p)),(113,.bool (L))] [] V f w) (fun _ al=>?_) ?_
    · have H:=a9;rcases Zx (decide ((4294967296 : Int) ≤ p)) with C | C
      · have H:=Zw H C;refine Zm (mv S rfl fun f S=>ov S rfl (Zi S rfl rfl Zcb) fun f S=>?_);have S:=S.bool (t:=103) rfl C;refine mv S rfl fun f S=>opn S rfl rfl rfl rfl fun f S=>opn S rfl rfl rfl rfl fun f S=>opn S rfl rfl rfl rfl fun f S=>opn S rfl rfl rfl rfl fun f S=>opn S rfl rfl rfl rfl fun f S=>opn S rfl rfl rfl rfl fun f S=>opn S rfl rfl rfl rfl fun f S=>opn S rfl rfl rfl rfl fun f S=>ov S rfl (ZG S (b:=true) rfl rfl) fun f S=>Zl ?_;obtain rfl:=Zg H;refine Zc (al _ _ ⟨_,_,rfl,(leR _),(S.fr' rfl)⟩)
      have H:=Zy H C;refine Zm (mv S rfl fun f S=>ov S rfl (Zi S rfl rfl Zcb) fun f S=>?_);have S:=S.bool (t:=103) rfl C;refine mv S rfl fun f S=>opy S rfl rfl rfl rfl (Zs S rfl) fun f S=>opy S rfl rfl rfl rfl (Zs S rfl) fun f S=>opy S rfl rfl rfl rfl (Zi S rfl rfl Zqb) fun f S=>opy S rfl rfl rfl rfl (Zs S rfl) fun f S=>opy S rfl rfl rfl rfl (Zi S rfl rfl Zqb) fun f S=>opy S rfl rfl rfl rfl (Zs S rfl) fun f S=>opy S rfl rfl rfl rfl (Zi S rfl rfl Zzb) fun f S=>opy S rfl rfl rfl rfl (Zi S rfl rfl Zya) fun f S=>ov S rfl (ZG S (b:=false) rfl rfl) fun f S=>Zl ?_;obtain rfl:=Zg H;refine Zc (al _ _ ⟨_,_,rfl,(leR _),(S.fr' rfl)⟩)
    rintro f w ⟨L,V,hq,W,S⟩;subst hq;have H:=ba;refine Zc (a7 _ _ ?_);rcases Zx (L) with D | D
    · have H:=Zw H D;refine ZH S rfl D (wp_skip (Zc (a6 _ _ (wp_block (sr (mv S rfl fun f S=>ov S rfl (Zi S rfl rfl ZXc) fun f S=>mw S rfl fun f S=>oe (sr (mv S rfl fun f S=>mv S rfl fun f S=>ov S rfl (Zi S rfl rfl Zzb) fun f S=>mw S rfl fun f S=>?_))))))));refine oe (sr (mv S rfl fun f S=>ov S rfl (Zi S rfl rfl Zcb) fun f S=>oe ?_));rcases Zx (decide ((4294967296 : Int) ≤ IntKind.u64.wrap (o + g))) with E | E
      · have H:=Zw H E;refine ZH S rfl E (wp_exit (Z4f rfl ?_));obtain rfl:=Zg H;have hq:=ak _ rfl;subst hq;have H:=aj;refine ZZ (ZBa ?_);obtain rfl:=Zg H;refine Zc (ai _ _ ⟨_,_,rfl,(leT (leT (leR _) U) W),(S.fr' rfl),(ZPa _ _)⟩)
      have H:=Zy H E;refine ZF S rfl E (wp_skip (Zsa ?_));obtain rfl:=Zg H;refine a5 _ rfl _ _ ⟨_,_,_,rfl,(leT U W),(S.fr' rfl),(ZPa _ _),(ZPa _ _)⟩
    have H:=Zy H D;refine ZF S rfl D (wp_exit (ZZ ?_));obtain rfl:=Zg H;have hq:=ak _ rfl;subst hq;have H:=aj;refine ZZ (ZBa ?_);obtain rfl:=Zg H;refine Zc (ai _ _ ⟨_,_,rfl,(leT (leT (leR _) U) W),(S.fr' rfl),a4⟩)
  rintro f w ⟨B,T,hq,br,S,bs⟩;subst hq;have H:=a1;refine Zc (aY _ _ (Zh fun _ bb=>?_));obtain ⟨bc,am,H⟩:=Zb H;refine Zm (mv S rfl fun f S=>ov S rfl (Zi S rfl rfl Zqb) fun f S=>mv S rfl fun f S=>ov S rfl (Zi S rfl rfl Zzb) fun f S=>mv S rfl fun f S=>ov S rfl (Zi S rfl rfl Zqb) fun f S=>mv S rfl fun f S=>ov S rfl (Zi S rfl rfl Zzb) fun f S=>mv S rfl fun f S=>mv S rfl fun f S=>ov S rfl (Zi S rfl rfl Zqb) fun f S=>ov S rfl (Zi S rfl rfl ZXc) fun f S=>mv S rfl fun f S=>?_);refine ov S rfl (Zi S rfl rfl (Ztb am)) fun f S=>mw S rfl fun f S=>mw S rfl fun f S=>Zl (Zc (bb _ _ (wp_ret ?_)));obtain rfl:=Zg H;refine ZC S (Zqa rfl (ZD S rfl) (ZD S rfl)) ⟨[.int .u64 (IntKind.u64.wrap ((IntKind.u64.wrap (d * ((4294967296 : Int)))) + B))],[.int .u64 (bc)],rfl,(Zv (ZPa _ _)),(Zv (Zbe (ZPa _ _) am))⟩
theorem Zsj {b : World} {a : Zd} (hv : VIn a b) {c : List Value} {hi : Int} (h : Rep.rel (Ze .u64) a c hi) {d : List Value} {lo : Int} (i : Rep.rel (Ze .u64) a d lo) {e : List Value} {y : Int} (j : Rep.rel (Ze .u64) a e y) {z : Int × Int} (hm : Zwc hi lo y = some z) :
    Ret Try.prog 66 #[(Ze .u64).val c,(Ze .u64).val d,(Ze .u64).val e] b a (fun y v'=>∃ f g,y = Value.tuple #[(Ze .u64).val f,(Ze .u64).val g] ∧ (Ze .u64).rel v' f z.1 ∧ (Ze .u64).rel v' g z.2) :=
  div64_w hv h i j (Zam hm)
theorem ZUk {E : World} {d : Zd} (hv : VIn d E) {R : List Value} {a : Nat} (g : Rep.rel Zu d R a) {T : List Value} {n : Int} (p1 : Rep.rel (Ze .u64) d T n) {z : Nat × Int} (H : Zvf a n = some z) : Ret Try.prog 51 #[Zu.val R,(Ze .u64).val T] E d (fun y v'=>∃ U V,y = .tuple #[Zu.val U,(Ze .u64).val V] ∧ Zu.rel v' U z.1 ∧ (Ze .u64).rel v' V z.2):=by
  obtain ⟨W,X,Y,rfl⟩:=ZU g;obtain ⟨rfl,r4⟩:=p1;refine ZV (K:=35) (args:=[.slice W X Y,.int .u64 (n)]) hv Try.func51 rfl rfl zl fun f S=>?_;unfold Zvf at H;refine sr (mw S rfl fun f S=>mw S rfl fun f S=>oe (Zh fun _ ah=>?_));obtain ⟨y9,F,H⟩:=Zb H;refine Zm (mv S rfl fun f S=>ov S rfl (ZR S (ZE g) rfl rfl ZI) fun f S=>?_);obtain ⟨Z,aa⟩ : ∃ c : List Value,c = (List.replicate ((((Zj 18446744073709551616 a)).length : Int)).toNat [.int .u64 ((0 : Int))]).flatten:=⟨_,rfl⟩;obtain ⟨ai,w,aj,S⟩:=Z3c ZRb S (l:=(((Zj 18446744073709551616 a)).length : Int)) (c:=(((Zj 18446744073709551616 a)).length : Int)) (Zna F).1 (Zna F).2.1 (Zna F).2.2.1 (Zna F).2.2.2 aa;have ak : Rep.rels (Ze .u64) d Z (List.replicate ((((Zj 18446744073709551616 a)).length : Int)).toNat ((0 : Int))):=by rw [aa];exact Zsc (show Rep.rel (Ze .u64) _ [.int .u64 ((0 : Int))] _ from (Zv (by decide))) _
  refine ZWa wn rfl zl (aj rfl rfl) S fun f S=>mw S rfl fun f S=>Zl (Zc (ah _ _ (sr (mw S rfl fun f S=>oe (Zh fun _ al=>Zh fun _ am=>?_)))));obtain ⟨aV,ab,H⟩:=Zb H;refine Zm (mv S rfl fun f S=>ov S rfl (ZR S (ZE g) rfl rfl ZI) fun f S=>ov S rfl (Zi S rfl rfl (Zza ab)) fun f S=>mw S rfl fun f S=>Zl (Zc (am _ _ ?_)));obtain ⟨an,ao,ap⟩:=Zb H;refine ZP (fun f w=>∃ (o : (List Int)) (s : Int) (t : Option Nat) (p : Nat) (u : Nat) (L : List Value) (G : Zd),(o,s) = an ∧ Zd.le d G ∧ St 35 E d [(6,.slice (mkA t) (p) u),(7,.int .u64 (s))] [Loc.own t 86 1 (p) u L] G f w ∧ Rep.rels (Ze .u64) G L o ∧ p = o.length ∧ inR .u64 s) (fun _ aq=>?_) ?_
  · have H:=ao;refine wp_block ?_;obtain ⟨aW,ar,au⟩:=Zb H;refine ZMa ar (fun av f w=>∃ (q : (List Int)) (h : Int) (b : Int) (I : Option Nat) (k : Nat) (v : Nat) (e : List Value) (J : Zd),(q,h,b) = av ∧ Zd.le d J ∧ St 35 E d [(0,.slice W X Y),(1,.int .u64 (n)),(6,.slice (mkA I) (k) v),(7,.int .u64 (h)),(8,.int .i64 (b))] [Loc.own I 86 1 (k) v e] J f w ∧ Rep.rels (Ze .u64) J e q ∧ k = q.length ∧ inR .u64 h ∧ inR .i64 b) ⟨_,_,_,some ai,((((Zj 18446744073709551616 a)).length : Int)).toNat,((((Zj 18446744073709551616 a)).length : Int)).toNat,Z,_,rfl,(leR _),(S.fr' rfl),ak,(Zoc (x:=(0 : Int))),(by decide),(Zma ab).2⟩ ?_;rintro _ f w st ⟨q,h,b,I,k,v,e,J,hq,M,S,B,C,ac,aX⟩ H aY aw ax;subst hq;refine Zh fun _ ay=>sr (mv S rfl fun f S=>ov S rfl (Zi S rfl rfl Zcb) fun f S=>oe ?_);rcases Zx (decide ((0 : Int) ≤ b)) with D | D
    · have H:=Zw H D;refine ZH S rfl D (wp_skip (Zc (ay _ _ (Zh fun _ az=>wp_block ?_))));obtain ⟨N,O,H⟩:=Zb H;obtain ⟨m,aA,H⟩:=Zb H;obtain ⟨aZ,r,H⟩:=Zb H;refine Zm (mv S rfl fun f S=>mv S rfl fun f S=>mv S rfl fun f S=>mv S rfl fun f S=>mv S rfl fun f S=>?_);have g:=Zp M g;obtain ⟨_,a0,a1,a2,rfl,P,aB⟩:=ZFa g (Zk O).2.1;obtain ⟨rfl,aC⟩:=aB;refine ov S rfl (ZT S rfl rfl ZI (Zk O).1 (ltI (ZE g) (Zk O).2.2.1)) fun f S=>ov S rfl (Zoa S rfl Z6 (S.view P)) fun f S=>mv S rfl fun f S=>opc S rfl (Zo S [.int .u64 (h),.int .u64 (N),.int .u64 (n)] Zdk rfl rfl) (Zsj S.vin (show Rep.rel (Ze .u64) _ [.int .u64 (h)] h from (Zv ac)) (show Rep.rel (Ze .u64) _ [.int .u64 (N)] N from (Zv aC)) (show Rep.rel (Ze .u64) _ [.int .u64 (n)] n from (Zv r4)) aA) ?_;rintro _ ad f w Q ⟨a3,a4,rfl,aD,aE⟩ S;have B:=Zaa Q B;have P:=Atm Q P;obtain ⟨rfl,aF⟩:=aD;obtain ⟨rfl,aG⟩:=aE;refine mv S rfl fun f S=>ov S rfl (ZA S rfl rfl) fun f S=>ov S rfl (ZA S rfl rfl) fun f S=>?_;obtain ⟨aH,rfl⟩:=ZPb S (j:=0) rfl (Z5b C (Zk r).2.2.2);have ae:=ZKa B (Zk r).2.1;obtain ⟨a5,aI⟩ : ∃ c,(List.take (Ze .u64).n (List.drop ((b).toNat * (Ze .u64).n) e)) = c:=⟨_,rfl⟩
      rw [aI] at ae;obtain ⟨rfl,a6⟩:=ae;refine ov S rfl (ZT S rfl rfl ZI (Zk r).1 (ltI C (Zk r).2.2.1)) fun f S=>?_;obtain ⟨w,aJ,S⟩:=ZMb S Z6 (off:=0 + (b).toNat * 1) (z:=.int .u64 (m.1)) (cs:=[.int .u64 (m.1)]) (Zxb rfl) rfl (i:=0) rfl (ZKb S (j:=0) rfl (ltN C (Zk r).2.2.2)) (by first | rfl | simp [ZEa]);have aK : Rep.rels (Ze .u64) ad (List.take (0 + (b).toNat * 1) e ++ [Value.int IntKind.u64 (m.1)] ++ List.drop (0 + (b).toNat * 1 + 1) e) (q.set (b).toNat m.1):=ZEb B (Zk r).2.2.2 (show Rep.rel (Ze .u64) ad [.int .u64 (m.1)] _ from (Zv aF)) rfl rfl;have aL : k = (q.set (b).toNat m.1).length:=Zwb C;refine ZS wn rfl (aJ rfl rfl) (mw S rfl fun f S=>Zl (Zsa (Zc (az _ _ ?_))));obtain ⟨a7,af,H⟩:=Zb H;refine Zm (mv S rfl fun f S=>ov S rfl (Zi S rfl rfl (Zza af)) fun f S=>mw S rfl fun f S=>Zl ?_);obtain rfl:=Zg H;refine aw _ rfl _ _ ⟨_,_,_,some aH,k,v,(List.take (0 + (b).toNat * 1) e ++ [Value.int IntKind.u64 (m.1)] ++ List.drop (0 + (b).toNat * 1 + 1) e),_,rfl,(leT M Q),(S.fr' rfl),aK,aL,aG,(Zma af).2⟩
    have H:=Zy H D;refine ZF S rfl D (wp_exit (ZZ ?_));obtain rfl:=Zg H;have hq:=ax _ rfl;subst hq;have H:=au;refine ZZ (ZBa ?_);obtain rfl:=Zg H;refine Zc (aq _ _ ⟨_,_,I,k,v,e,_,rfl,(leT (leR _) M),(S.fr' rfl),B,C,ac⟩)
  rintro f w ⟨o,s,t,p,u,L,G,hq,a8,S,aM,aN,aO⟩;subst hq;have H:=ap;refine Zc (al _ _ (Zh fun _ aP=>?_));obtain ⟨a9,aQ,H⟩:=Zb H;refine Zm (mv S rfl fun f S=>?_);obtain ⟨ba,bb,S,aR⟩:=S.pubSlice (i:=0) (A:=(Ze .u64)) (l:=o) (ℓ':=[]) rfl rfl aN aM rfl;refine opc S rfl (Zo S [.slice (mkA t) (p) u] ZCc rfl rfl) (ZAc S.vin (show Rep.rel (ZK (Ze .u64)) _ [.slice (mkA t) (p) u] o from aR) aQ) ?_;rintro _ bc f w bd ⟨be,rfl,ag⟩ S;obtain ⟨aS,aT,aU,rfl⟩:=ZU ag;refine mv S rfl fun f S=>mw S rfl fun f S=>mw S rfl fun f S=>Zl (Zc (aP _ _ (wp_ret ?_)));obtain rfl:=Zg H;refine ZC S (Zqa rfl (ZD S rfl) (ZD S rfl)) ⟨[.slice aS aT aU],[.int .u64 (s)],rfl,ag,(Zv aO)⟩
theorem Ztj {c : World} {b : Zd} (hv : VIn b c) {d : List Value} {a : Nat} (i : Rep.rel Zu b d a) {e : List Value} {n : Int} (f : Rep.rel (Ze .u64) b e n) {z : Nat × Int} (hm : Z9c a n = some z) :
    Ret Try.prog 51 #[Zu.val d,(Ze .u64).val e] c b (fun y v'=>∃ g h,y = Value.tuple #[Zu.val g,(Ze .u64).val h] ∧ Zu.rel v' g z.1 ∧ (Ze .u64).rel v' h z.2) :=
  ZUk hv i f (Zcm f.2 hm)
theorem cmp_w {m : World} {e : Zd} (hv : VIn e m) {A : List Value} {a : (List Int)} (c : Rep.rel (ZK (Ze .u64)) e A a) {B : List Value} {b : (List Int)} (d : Rep.rel (ZK (Ze .u64)) e B b) {z : Int} (H : Z7g a b = some z) : Ret Try.prog 25 #[(ZK (Ze .u64)).val A,(ZK (Ze .u64)).val B] m e (fun y v'=>∃ C,y = (Ze .i64).val C ∧ (Ze .i64).rel v' C z):=by
  obtain ⟨D,E,G,rfl⟩:=Zpb c;obtain ⟨I,J,L,rfl⟩:=Zpb d;refine ZV (K:=41) (args:=[.slice D (E) G,.slice I (J) L]) hv Try.func25 rfl rfl zl fun f S=>?_;unfold Z7g at H;refine sr (mw S rfl fun f S=>oe (Zh fun _ P=>sr (mv S rfl fun f S=>ov S rfl (ZR S (ZE c) rfl rfl ZI) fun f S=>mv S rfl fun f S=>ov S rfl (ZR S (ZE d) rfl rfl ZI) fun f S=>ov S rfl (Zi S rfl rfl Zxa) fun f S=>oe ?_)));rcases Zx (((a.length : Int)) != ((b.length : Int))) with g | g
  · have H:=Zw H g;refine ZH S rfl g (Zh fun _ Q=>sr (mv S rfl fun f S=>ov S rfl (ZR S (ZE c) rfl rfl ZI) fun f S=>mv S rfl fun f S=>ov S rfl (ZR S (ZE d) rfl rfl ZI) fun f S=>ov S rfl (Zi S rfl rfl Zga) fun f S=>oe ?_));rcases Zx (decide ((a.length : Int) < (b.length : Int))) with h | h
    · have H:=Zw H h;refine ZH S rfl h (sr (mw S rfl fun f S=>oe (wp_ret (ZM (ZM ?_)))));obtain rfl:=Zg H;refine ZC S (ZL rfl (ZD S rfl)) ⟨[.int .i64 ((-1 : Int))],rfl,(Zv (by decide))⟩
    have H:=Zy H h;refine ZF S rfl h (wp_skip (Zc (Q _ _ (sr (mw S rfl fun f S=>oe (wp_ret (ZM ?_)))))));obtain rfl:=Zg H;refine ZC S (ZL rfl (ZD S rfl)) ⟨[.int .i64 ((1 : Int))],rfl,(Zv (by decide))⟩
  have H:=Zy H g;refine ZF S rfl g (wp_skip (Zc (P _ _ (Zh fun _ R=>Zh fun _ T=>?_))));obtain ⟨ar,M,H⟩:=Zb H;refine Zm (mv S rfl fun f S=>ov S rfl (ZR S (ZE c) rfl rfl ZI) fun f S=>ov S rfl (Zi S rfl rfl (Zza M)) fun f S=>mw S rfl fun f S=>Zl (Zc (T _ _ ?_)));obtain ⟨U,V,o⟩:=Zb H;refine ZP (fun f w=>∃  (p : Zd),(.inl (())) = U ∧ Zd.le e p ∧ St 41 m e [] [] p f w) (fun _ W=>?_) ?_
  · have H:=V;refine wp_block ?_;obtain ⟨au,X,q⟩:=Zb H;refine ZMa X (fun Y f w=>∃ (i : Int) (r : Zd),i = Y ∧ Zd.le e r ∧ St 41 m e [(0,.slice D (E) G),(1,.slice I (J) L),(5,.int .i64 (i))] [] r f w ∧ inR .i64 i) ⟨_,_,rfl,(leR _),(S.fr' rfl),(Zma M).2⟩ ?_;rintro _ f w st ⟨i,r,hq,n,S,av⟩ H aw Z s;subst hq;refine Zh fun _ aa=>sr (mv S rfl fun f S=>ov S rfl (Zi S rfl rfl Zcb) fun f S=>oe ?_);rcases Zx (decide ((0 : Int) ≤ i)) with j | j
    · have H:=Zw H j;refine ZH S rfl j (wp_skip (Zc (aa _ _ (Zh fun _ ab=>wp_block (Zh fun _ ac=>Zh fun _ ad=>?_)))));obtain ⟨ae,t,H⟩:=Zb H;obtain ⟨af,u,H⟩:=Zb H;refine Zia (fl:=#[true,true,true,true,true,true,true,true,true]) Zja (by kernel_rfl) S ?_;intro ops O F w S;refine rfa O F 0 rfl rfl S (Zs S rfl) fun f S=>rfa O F 1 rfl rfl S (Zs S rfl) fun f S=>?_;have c:=Zp n c;obtain ⟨_,ax,ay,az,rfl,ag,ah⟩:=ZFa c (Zk t).2.1;obtain ⟨rfl,aA⟩:=ah;refine rfa O F 2 rfl rfl S (ZT S rfl rfl ZI (Zk t).1 (ltI (ZE c) (Zk t).2.2.1)) fun f S=>rfa O F 3 rfl rfl S (Zoa S rfl Z6 (S.view ag)) fun f S=>rfa O F 4 rfl rfl S (Zs S rfl) fun f S=>rfa O F 5 rfl rfl S (Zs S rfl) fun f S=>?_;have d:=Zp n d;obtain ⟨_,aB,aC,aD,rfl,ai,aj⟩:=ZFa d (Zk u).2.1;obtain ⟨rfl,aE⟩:=aj;refine rfa O F 6 rfl rfl S (ZT S rfl rfl ZI (Zk u).1 (ltI (ZE d) (Zk u).2.2.1)) fun f S=>rfa O F 7 rfl rfl S (Zoa S rfl Z6 (S.view ai)) fun f S=>rfa O F 8 rfl rfl S (Zi S rfl rfl Zga) fun f S=>Z1 O F (Zc (ad _ _ ?_));rcases Zx (decide (ae < af)) with k | k
      · have H:=Zw H k;refine ZH S rfl k (sr (mw S rfl fun f S=>oe (wp_ret (ZM (ZDa (ZM ?_))))));obtain rfl:=Zg H;have hq:=s _ rfl;subst hq;have H:=q;refine ZM (ZDa ?_);obtain rfl:=Zg H;have H:=o;refine ZM (ZM ?_);obtain rfl:=Zg H;refine ZC S (ZL rfl (ZD S rfl)) ⟨[.int .i64 ((-1 : Int))],rfl,(Zv (by decide))⟩
      have H:=Zy H k;refine ZF S rfl k (wp_skip (Zc (ac _ _ (Zh fun _ ak=>?_))));obtain ⟨al,v,H⟩:=Zb H;obtain ⟨am,x,H⟩:=Zb H;refine Zia (fl:=#[true,true,true,true,true,true,true,true,true]) Zja (by kernel_rfl) S ?_;intro ops O F w S;refine rfa O F 0 rfl rfl S (Zs S rfl) fun f S=>rfa O F 1 rfl rfl S (Zs S rfl) fun f S=>?_;obtain ⟨aF,an,ao⟩:=Zmb c (Zk v).2.1;obtain ⟨rfl,aG⟩:=ao;refine rfa O F 2 rfl rfl S (ZT S rfl rfl ZI (Zk v).1 (ltI (ZE c) (Zk v).2.2.1)) fun f S=>rfa O F 3 rfl rfl S (Zoa S rfl Z6 (S.view an)) fun f S=>rfa O F 4 rfl rfl S (Zs S rfl) fun f S=>rfa O F 5 rfl rfl S (Zs S rfl) fun f S=>?_;obtain ⟨aH,ap,aq⟩:=Zmb d (Zk x).2.1;obtain ⟨rfl,aI⟩:=aq;refine rfa O F 6 rfl rfl S (ZT S rfl rfl ZI (Zk x).1 (ltI (ZE d) (Zk x).2.2.1)) fun f S=>rfa O F 7 rfl rfl S (Zoa S rfl Z6 (S.view ap)) fun f S=>rfa O F 8 rfl rfl S (Zi S rfl rfl Zya) fun f S=>Z1 O F (Zc (ak _ _ ?_));rcases Zx (decide (am < al)) with l | l
      · have H:=Zw H l;refine ZH S rfl l (sr (mw S rfl fun f S=>oe (wp_ret (ZDa (ZM ?_)))));obtain rfl:=Zg H;have hq:=s _ rfl;subst hq;have H:=q;refine ZM (ZDa ?_);obtain rfl:=Zg H;have H:=o;refine ZM (ZM ?_);obtain rfl:=Zg H;refine ZC S (ZL rfl (ZD S rfl)) ⟨[.int .i64 ((1 : Int))],rfl,(Zv (by decide))⟩
      have H:=Zy H l;refine ZF S rfl l (wp_skip (Zsa (Zc (ab _ _ ?_))));obtain ⟨aJ,N,H⟩:=Zb H;refine Zm (mv S rfl fun f S=>ov S rfl (Zi S rfl rfl (Zza N)) fun f S=>mw S rfl fun f S=>Zl ?_);obtain rfl:=Zg H;refine Z _ rfl _ _ ⟨_,_,rfl,n,(S.fr' rfl),(Zma N).2⟩
    have H:=Zy H j;refine ZF S rfl j (wp_exit (ZZ ?_));obtain rfl:=Zg H;have hq:=s _ rfl;subst hq;have H:=q;refine ZZ (ZBa ?_);obtain rfl:=Zg H;refine Zc (W _ _ ⟨_,rfl,(leT (leR _) n),(S.fr' rfl)⟩)
  rintro f w ⟨p,hq,aK,S⟩;subst hq;have H:=o;refine Zc (R _ _ (sr (mw S rfl fun f S=>oe (wp_ret ?_))));obtain rfl:=Zg H;refine ZC S (ZL rfl (ZD S rfl)) ⟨[.int .i64 ((0 : Int))],rfl,(Zv (by decide))⟩
theorem Zde {d : World} {c : Zd} (hv : VIn c d) {e : List Value} {a : Nat} (f : Rep.rel Zu c e a) {g : List Value} {b : Nat} (h : Rep.rel Zu c g b) {z : Int} (hm : ZOc a b = some z) :
    Ret Try.prog 25 #[Zu.val e,Zu.val g] d c (fun y v'=>∃ i,y = (Ze .i64).val i ∧ (Ze .i64).rel v' i z) :=
  cmp_w hv f h ((cmp_eq (ZXi f) (ZXi h)).trans hm)
theorem mul64_w {e : World} {a : Zd} (hv : VIn a e) {g : List Value} {x : Int} (l : Rep.rel (Ze .u64) a g x) {h : List Value} {y : Int} (m : Rep.rel (Ze .u64) a h y) {z : Int × Int} (H : Zef x y = some z) : Ret Try.prog 46 #[(Ze .u64).val g,(Ze .u64).val h] e a (fun y v'=>∃ i c,y = .tuple #[(Ze .u64).val i,(Ze .u64).val c] ∧ (Ze .u64).rel v' i z.1 ∧ (Ze .u64).rel v' c z.2):=by
  obtain ⟨rfl,c⟩:=l;obtain ⟨rfl,B⟩:=m;refine ZV (K:=51) (args:=[.int .u64 (x),.int .u64 (y)]) hv Try.func46 rfl rfl zl fun f S=>?_;unfold Zef at H;refine sr (mw S rfl fun f S=>mw S rfl fun f S=>oe (sr (mv S rfl fun f S=>ov S rfl (Zi S rfl rfl Zqd) fun f S=>mw S rfl fun f S=>oe (Zh fun _ n=>?_))));obtain ⟨b,o,H⟩:=Zb H;refine Zm (mv S rfl fun f S=>ov S rfl (Zi S rfl rfl (Ztb o)) fun f S=>mw S rfl fun f S=>Zl (Zc (n _ _ (sr (mv S rfl fun f S=>ov S rfl (Zi S rfl rfl Zqd) fun f S=>mw S rfl fun f S=>oe (Zh fun _ p=>?_))))));obtain ⟨d,q,H⟩:=Zb H;refine Zm (mv S rfl fun f S=>ov S rfl (Zi S rfl rfl (Ztb q)) fun f S=>mw S rfl fun f S=>Zl (Zc (p _ _ (sr (mv S rfl fun f S=>mv S rfl fun f S=>ov S rfl (Zi S rfl rfl Zqb) fun f S=>mw S rfl fun f S=>oe (Zh fun _ r=>?_))))));obtain ⟨s,t,H⟩:=Zb H;refine Zm (mv S rfl fun f S=>mv S rfl fun f S=>ov S rfl (Zi S rfl rfl Zqb) fun f S=>mv S rfl fun f S=>ov S rfl (Zi S rfl rfl (Ztb t)) fun f S=>ov S rfl (Zi S rfl rfl Zzb) fun f S=>mw S rfl fun f S=>Zl ?_);have S:=S.fr' (σ':=[(0,.int .u64 (x)),(1,.int .u64 (y)),(6,.int .u64 (Zea .u64 x ((4294967295 : Int)))),(7,.int .u64 (b)),(9,.int .u64 (d)),(11,.int .u64 (IntKind.u64.wrap ((IntKind.u64.wrap (b * (Zea .u64 y ((4294967295 : Int))))) + s)))]) rfl
  refine Zc (r _ _ (sr (mv S rfl fun f S=>ov S rfl (Zi S rfl rfl Zqd) fun f S=>mw S rfl fun f S=>oe (Zh fun _ u=>?_))));obtain ⟨j,v,H⟩:=Zb H;refine Zm (mv S rfl fun f S=>ov S rfl (Zi S rfl rfl (Ztb v)) fun f S=>mw S rfl fun f S=>Zl (Zc (u _ _ (sr (mv S rfl fun f S=>mv S rfl fun f S=>mv S rfl fun f S=>ov S rfl (Zi S rfl rfl Zqb) fun f S=>ov S rfl (Zi S rfl rfl Zzb) fun f S=>mw S rfl fun f S=>oe ?_)))));refine Zh fun _ w=>?_;obtain ⟨k,A,H⟩:=Zb H;refine Zm (mv S rfl fun f S=>mv S rfl fun f S=>ov S rfl (Zi S rfl rfl Zqb) fun f S=>mv S rfl fun f S=>ov S rfl (Zi S rfl rfl Zzb) fun f S=>mv S rfl fun f S=>ov S rfl (Zi S rfl rfl (Ztb A)) fun f S=>ov S rfl (Zi S rfl rfl Zzb) fun f S=>mw S rfl fun f S=>Zl (Zc (w _ _ (sr (mv S rfl fun f S=>?_)))));refine mv S rfl fun f S=>ov S rfl (Zi S rfl rfl Zqb) fun f S=>mw S rfl fun f S=>?_;have S:=S.fr' (σ':=[(4,.int .u64 (IntKind.u64.wrap ((IntKind.u64.wrap ((IntKind.u64.wrap (b * d)) + j)) + k))),(5,.int .u64 (IntKind.u64.wrap (x * y)))]) rfl;refine oe (wp_ret ?_);obtain rfl:=Zg H;refine ZC S (Zqa rfl (ZD S rfl) (ZD S rfl)) ⟨[.int .u64 (IntKind.u64.wrap ((IntKind.u64.wrap ((IntKind.u64.wrap (b * d)) + j)) + k))],[.int .u64 (IntKind.u64.wrap (x * y))],rfl,(Zv (ZPa _ _)),(Zv (ZPa _ _))⟩
theorem ZPh {b : World} {a : Zd} (hv : VIn a b) {c : List Value} {x : Int} (g : Rep.rel (Ze .u64) a c x) {d : List Value} {y : Int} (h : Rep.rel (Ze .u64) a d y) {z : Int × Int} (hm : ZKc x y = some z) :
    Ret Try.prog 46 #[(Ze .u64).val c,(Ze .u64).val d] b a (fun y v'=>∃ e f,y = Value.tuple #[(Ze .u64).val e,(Ze .u64).val f] ∧ (Ze .u64).rel v' e z.1 ∧ (Ze .u64).rel v' f z.2) :=
  mul64_w hv g h (Zjn hm)
theorem take_w {R : World} {o : Zd} (hv : VIn o R) {a off0 g C : Nat} {E : TypeId} {pre0 cs0 post0 : List Value} {u : (List Int)} (bf : R.heap[a]? = some (.cells (pre0 ++ cs0 ++ post0).toArray E (0,0))) (aG : off0 = pre0.length) (bg : o a = none) (au : g = u.length) (bh : g ≤ C ∧ C ≤ maxLen) (r : Rep.rels (Ze .u64) o cs0 u) {c1 : List Value} {v : Nat} (D : Rep.rel Zu o c1 v) {c2 : List Value} {q : Int} (p2 : Rep.rel (Ze .u64) o c2 q) {z : Bool × (List Int)} (H : Zof u v q = some z) : RetL Try.prog 77 #[.slice (some ⟨a,off0,none⟩) g C,Zu.val c1,(Ze .u64).val c2] R o [a] (fun y v' w'=>(∃ r0,y = Zha.val r0 ∧ Zha.rel v' r0 z.1) ∧ v' a = none ∧ ∃ cs,w'.heap[a]? = some (.cells (pre0 ++ cs ++ post0).toArray E (0,0)) ∧ g = z.2.length ∧ Rep.rels (Ze .u64) v' cs z.2):=by
  obtain ⟨q1,V,W,rfl⟩:=ZU D;obtain ⟨rfl,r4⟩:=p2;refine Z3j (K:=79) (args:=[.slice (some ⟨a,off0,none⟩) (g) C,.slice q1 V W,.int .u64 (q)]) hv bf bg Try.func77 rfl rfl zl fun f S=>?_;unfold Zof at H;refine sr (mw S rfl fun f S=>oe (Zh fun _ bi=>?_));obtain ⟨J,bj,H⟩:=Zb H;obtain ⟨cA,av,H⟩:=Zb H;refine Zm (mv S rfl fun f S=>ov S rfl (ZR S (ZE D) rfl rfl ZI) fun f S=>ov S rfl (Zi S rfl rfl (Zca bj)) fun f S=>?_);obtain ⟨aH,aQ⟩ : ∃ c : List Value,c = (List.replicate (J).toNat [.int .u64 ((0 : Int))]).flatten:=⟨_,rfl⟩;obtain ⟨aR,w,bk,S⟩:=Z3c ZRb S (l:=J) (c:=J) (Zna av).1 (Zna av).2.1 (Zna av).2.2.1 (Zna av).2.2.2 aQ;have bm : Rep.rels (Ze .u64) o aH (List.replicate (J).toNat ((0 : Int))):=by rw [aQ];exact Zsc (show Rep.rel (Ze .u64) _ [.int .u64 ((0 : Int))] _ from (Zv (by decide))) _
  refine ZWa wn rfl zl (bk rfl rfl) S fun f S=>mw S rfl fun f S=>Zl (Zc (bi _ _ (sr (mw S rfl fun f S=>oe (Zh fun _ bn=>sr (mv S rfl fun f S=>ov S rfl (ZR S (ZE D) rfl rfl ZI) fun f S=>mv S rfl fun f S=>oe ?_))))));obtain ⟨bo,bp,bq⟩:=Zb H;refine ZP (fun f w=>∃ (L : (List Int)) (b : Int) (aI : Option Nat) (s : Nat) (G : Nat) (h : List Value) (X : Zd),(L,b) = bo ∧ Zd.le o X ∧ St 79 ⟨R,[a]⟩ o [(0,.slice (some ⟨a,off0,none⟩) (g) C),(1,.slice q1 V W),(7,.slice (mkA aI) (s) G),(8,.int .u64 (b))] [Loc.box a E (pre0 ++ cs0 ++ post0),Loc.own aI 86 1 (s) G h] X f w ∧ Rep.rels (Ze .u64) X h L ∧ s = L.length ∧ inR .u64 b) (fun _ br=>?_) ?_
  · have H:=bp;refine wp_block ?_;obtain ⟨cB,bs,bt⟩:=Zb H;have S:=S.reorder (ℓ':=[Loc.box a E (pre0 ++ cs0 ++ post0),Loc.own (some aR) 86 1 ((J).toNat) (J).toNat aH]) [1,0] rfl (by decide);refine ZMa bs (fun bu f w=>∃ (Y : (List Int)) (ag : Int) (m : Int) (aw : Option Nat) (M : Nat) (Z : Nat) (I : List Value) (ax : Zd),(Y,ag,m) = bu ∧ Zd.le o ax ∧ St 79 ⟨R,[a]⟩ o [(0,.slice (some ⟨a,off0,none⟩) (g) C),(1,.slice q1 V W),(2,.int .u64 (q)),(7,.slice (mkA aw) (M) Z),(8,.int .u64 (ag)),(20,.slice q1 V W),(21,.int .i64 ((((Zj 18446744073709551616 v)).length : Int))),(22,.int .i64 (m))] [Loc.box a E (pre0 ++ cs0 ++ post0),Loc.own aw 86 1 (M) Z I] ax f w ∧ Rep.rels (Ze .u64) ax I Y ∧ M = Y.length ∧ inR .u64 ag ∧ inR .i64 m) ⟨_,_,_,some aR,(J).toNat,(J).toNat,aH,_,rfl,(leR _),(S.fr' rfl),bm,(Zoc (x:=(0 : Int))),(by decide),(by decide)⟩ ?_;rintro _ f w st ⟨Y,ag,m,aw,M,Z,I,ax,hq,ay,S,ah,ai,bv,cD⟩ H cE bw bx;subst hq;have r:=Zaa ay r;refine sr (ov S rfl (Zi S rfl rfl Zga) fun f S=>oe (Zh fun _ bz=>?_));rcases Zx (decide (m < (((Zj 18446744073709551616 v)).length : Int))) with aj | aj
    · have H:=Zw H aj;refine ZH S rfl aj (wp_skip (Zc (bz _ _ (Zh fun _ bA=>wp_block (Zh fun _ bB=>?_)))));obtain ⟨aJ,aK,H⟩:=Zb H;refine Zm (mv S rfl fun f S=>?_);have D:=Zp ay D;obtain ⟨_,aS,aT,cF,rfl,bC,bD⟩:=ZFa D (Zk aK).2.1;obtain ⟨rfl,bE⟩:=bD;refine ov S rfl (ZT S rfl rfl ZI (Zk aK).1 (ltI (ZE D) (Zk aK).2.2.1)) fun f S=>ov S rfl (Zoa S rfl Z6 (S.view bC)) fun f S=>mw S rfl fun f S=>mw S rfl fun f S=>Zl (Zc (bB _ _ (Zh fun _ bF=>?_)));obtain ⟨aU,bG,H⟩:=Zb H;refine Zm (mv S rfl fun f S=>mv S rfl fun f S=>opc S rfl (Zo S [.int .u64 (aJ),.int .u64 (q)] Zph rfl rfl) (ZPh S.vin (show Rep.rel (Ze .u64) _ [.int .u64 (aJ)] aJ from (Zv bE)) (show Rep.rel (Ze .u64) _ [.int .u64 (q)] q from (Zv r4)) bG) ?_);rintro _ aV f w aL ⟨cG,cH,rfl,bH,bI⟩ S;have r:=Zaa aL r;have ah:=Zaa aL ah;obtain ⟨rfl,cI⟩:=bH;obtain ⟨rfl,cJ⟩:=bI;refine mv S rfl fun f S=>ov S rfl (ZA S rfl rfl) fun f S=>ov S rfl (ZA S rfl rfl) fun f S=>mw S rfl fun f S=>mw S rfl fun f S=>Zl (Zc (bF _ _ (sr (mw S rfl fun f S=>oe (Zh fun _ bJ=>?_)))));obtain ⟨N,aW,H⟩:=Zb H;obtain ⟨cK,aa,H⟩:=Zb H;refine Zm (mv S rfl fun f S=>mv S rfl fun f S=>mv S rfl fun f S=>mv S rfl fun f S=>ov S rfl (Zkb S [.int .u64 (aU.2),.int .u64 (ag),.int .u64 ((0 : Int))] (Z5e ZHf aW) rfl rfl) fun f S=>mv S rfl fun f S=>ov S rfl (ZA S rfl rfl) fun f S=>ov S rfl (ZA S rfl rfl) fun f S=>?_)
      obtain ⟨aX,rfl⟩:=ZPb S (j:=1) rfl (Z5b ai (Zk aa).2.2.2);have aY:=ZKa ah (Zk aa).2.1;obtain ⟨cL,bK⟩ : ∃ c,(List.take (Ze .u64).n (List.drop ((m).toNat * (Ze .u64).n) I)) = c:=⟨_,rfl⟩;rw [bK] at aY;obtain ⟨rfl,cM⟩:=aY;refine ov S rfl (ZT S rfl rfl ZI (Zk aa).1 (ltI ai (Zk aa).2.2.1)) fun f S=>?_;obtain ⟨w,bL,S⟩:=ZMb S Z6 (off:=0 + (m).toNat * 1) (z:=.int .u64 (N.1)) (cs:=[.int .u64 (N.1)]) (Zxb rfl) rfl (i:=1) rfl (ZKb S (j:=1) rfl (ltN ai (Zk aa).2.2.2)) (by first | rfl | simp [ZEa]);have bM : Rep.rels (Ze .u64) aV (List.take (0 + (m).toNat * 1) I ++ [Value.int IntKind.u64 (N.1)] ++ List.drop (0 + (m).toNat * 1 + 1) I) (Y.set (m).toNat N.1):=ZEb ah (Zk aa).2.2.2 (show Rep.rel (Ze .u64) aV [.int .u64 (N.1)] _ from (Zv (Zjg aW))) rfl rfl;have bN : M = (Y.set (m).toNat N.1).length:=Zwb ai;refine ZS wn rfl (bL rfl rfl) (mw S rfl fun f S=>Zl ?_);have S:=S.fr' (σ':=[(0,.slice (some ⟨a,off0,none⟩) (g) C),(1,.slice (some ⟨aS,aT,none⟩) V W),(2,.int .u64 (q)),(7,.slice (mkA (some aX)) (M) Z),(11,.int .u64 (aU.1)),(13,.int .u64 (N.2)),(20,.slice (some ⟨aS,aT,none⟩) V W),(21,.int .i64 ((((Zj 18446744073709551616 v)).length : Int))),(22,.int .i64 (m))]) rfl
      refine Zc (bJ _ _ (Zm (mv S rfl fun f S=>mv S rfl fun f S=>ov S rfl (Zi S rfl rfl Zzb) fun f S=>mw S rfl fun f S=>Zl (Zsa (Zc (bA _ _ ?_))))));obtain ⟨cN,aZ,H⟩:=Zb H;refine Zm (ov S rfl (Zi S rfl rfl (Zca aZ)) fun f S=>mv S rfl fun f S=>Zl ?_);obtain rfl:=Zg H;refine bw _ rfl _ _ ⟨_,_,_,some aX,M,Z,(List.take (0 + (m).toNat * 1) I ++ [Value.int IntKind.u64 (N.1)] ++ List.drop (0 + (m).toNat * 1 + 1) I),_,rfl,(leT ay aL),(S.fr' rfl),bM,bN,(ZPa _ _),(Zma aZ).2⟩
    have H:=Zy H aj;refine ZF S rfl aj (wp_exit (ZZ ?_));obtain rfl:=Zg H;have hq:=bx _ rfl;subst hq;have H:=bt;refine ZZ (ZBa ?_);obtain rfl:=Zg H;refine Zc (br _ _ ⟨_,_,aw,M,Z,I,_,rfl,(leT (leR _) ay),(S.fr' rfl),ah,ai,bv⟩)
  rintro f w ⟨L,b,aI,s,G,h,X,hq,a0,S,a1,az,bO⟩;subst hq;have H:=bq;have r:=Zaa a0 r;refine Zc (bn _ _ (Zh fun _ bP=>?_));obtain ⟨cO,ab,H⟩:=Zb H;refine Zm (mv S rfl fun f S=>mv S rfl fun f S=>?_);have D:=Zp a0 D;refine ov S rfl (ZR S (ZE D) rfl rfl ZI) fun f S=>mv S rfl fun f S=>?_;obtain ⟨ac,rfl⟩:=ZPb S (j:=1) rfl (Z5b az (Zk ab).2.2.2);have a2:=ZKa a1 (Zk ab).2.1;obtain ⟨cR,bQ⟩ : ∃ c,(List.take (Ze .u64).n (List.drop (((((Zj 18446744073709551616 v)).length : Int)).toNat * (Ze .u64).n) h)) = c:=⟨_,rfl⟩;rw [bQ] at a2;obtain ⟨rfl,cS⟩:=a2;refine ov S rfl (ZT S rfl rfl ZI (Zk ab).1 (ltI az (Zk ab).2.2.1)) fun f S=>?_;obtain ⟨w,bR,S⟩:=ZMb S Z6 (off:=0 + ((((Zj 18446744073709551616 v)).length : Int)).toNat * 1) (z:=.int .u64 (b)) (cs:=[.int .u64 (b)]) (Zxb rfl) rfl (i:=1) rfl (ZKb S (j:=1) rfl (ltN az (Zk ab).2.2.2)) (by first | rfl | simp [ZEa]);have p : Rep.rels (Ze .u64) X (List.take (0 + ((((Zj 18446744073709551616 v)).length : Int)).toNat * 1) h ++ [Value.int IntKind.u64 (b)] ++ List.drop (0 + ((((Zj 18446744073709551616 v)).length : Int)).toNat * 1 + 1) h) (L.set ((((Zj 18446744073709551616 v)).length : Int)).toNat b):=ZEb a1 (Zk ab).2.2.2 (show Rep.rel (Ze .u64) X [.int .u64 (b)] _ from (Zv bO)) rfl rfl
  have aM : s = (L.set ((((Zj 18446744073709551616 v)).length : Int)).toNat b).length:=Zwb az;refine ZS wn rfl (bR rfl rfl) (Zl (Zc (bP _ _ (Zh fun _ bS=>Zh fun _ bT=>?_))));obtain ⟨cT,bU,H⟩:=Zb H;obtain ⟨cU,bV,H⟩:=Zb H;obtain ⟨bW,bX,H⟩:=Zb H;refine Zm (mv S rfl fun f S=>?_);have p0s120:=r;have h69s120:=p;have bY:=S.vst.le;obtain ⟨cV,cW,a3,t,S,bZ,b1,b2,T⟩:=S.lendSeg (i:=0) (A:=(Ze .u64)) (l:=u) (ℓ':=[Loc.own (some ac) 86 1 (s) G ((List.take (0 + ((((Zj 18446744073709551616 v)).length : Int)).toNat * 1) h ++ [Value.int IntKind.u64 (b)] ++ List.drop (0 + ((((Zj 18446744073709551616 v)).length : Int)).toNat * 1 + 1) h))]) rfl rfl aG r au bh;have p:=Zaa a3 p;refine opc S rfl (Zo S [.slice (some ⟨a,off0,none⟩) (g) C] ZCc rfl rfl) (ZAc S.vin (show Rep.rel (ZK (Ze .u64)) _ [.slice (some ⟨a,off0,none⟩) (g) C] u from T) bU) ?_;rintro _ cX f w aA ⟨cY,rfl,P⟩ S;have p:=Zaa aA p;have t:=aA _ _ t;obtain ⟨b3,b4,b5,rfl⟩:=ZU P;refine mv S rfl fun f S=>?_;have T:=Zp aA T;have h128s137:=T;have h69s137:=p;have h133s137:=P;have h124s137:=t;have b6:=S.vst.le;obtain ⟨cZ,c0,aB,ak,S,b7,b8,b9,ca⟩:=S.lendSlice (i:=0) (A:=(Ze .u64)) (l:=(L.set ((((Zj 18446744073709551616 v)).length : Int)).toNat b)) (ℓ':=[]) rfl rfl rfl p aM
  have t:=aB _ _ t;refine opc S rfl (Zo S [.slice (mkA (some ac)) (s) G] ZCc rfl rfl) (ZAc S.vin (show Rep.rel (ZK (Ze .u64)) _ [.slice (mkA (some ac)) (s) G] ((L.set ((((Zj 18446744073709551616 v)).length : Int)).toNat b)) from ca) bV) ?_;rintro _ c3 f w al ⟨c4,rfl,a4⟩ S;have t:=al _ _ t;have ak:=al _ _ ak;obtain ⟨cb,cc,cd,rfl⟩:=ZU a4;have P:=Zp (leT aB al) P;refine opc S rfl (Zo S [.slice b3 b4 b5,.slice cb cc cd] Zge rfl rfl) (Zde S.vin P a4 bX) ?_;rintro _ c5 f w am ⟨c6,rfl,ce⟩ S;have t:=am _ _ t;have ak:=am _ _ ak;obtain ⟨rfl,c7⟩:=ce;refine ov S rfl (Zi S rfl rfl Zga) fun f S=>Zl ?_;obtain ⟨c8,an,S⟩:=S.takeBack (e:=Loc.own (some ac) 86 1 (s) G ((List.take (0 + ((((Zj 18446744073709551616 v)).length : Int)).toNat * 1) h ++ [Value.int IntKind.u64 (b)] ++ List.drop (0 + ((((Zj 18446744073709551616 v)).length : Int)).toNat * 1 + 1) h))) (leT (leT aB al) am) rfl ak b7 b8 b6 b9;have T:=Zp (leT (leT aB al) am) T;have T:=Zp an h128s137;have p:=Zaa an h69s137;have P:=Zp am P;have P:=Zp an h133s137;have t:=an _ _ h124s137;obtain ⟨a5,a6,S⟩:=S.takeBack (e:=Loc.box a E (pre0 ++ cs0 ++ post0)) (leT (leT a3 aA) an) rfl t bZ b1 bY b2;have r:=Zaa a6 p0s120
  have p:=Zaa a6 h69s120;refine Zc (bT _ _ ?_);rcases Zx (decide (bW < (0 : Int))) with ao | ao
  · have H:=Zw H ao;refine ZH S rfl ao (sr (mw S rfl fun f S=>oe (wp_ret (ZM ?_))));obtain rfl:=Zg H;refine Zxh S (ZL rfl (ZD S rfl)) ⟨⟨[.bool (false)],rfl,ZUa⟩,(S.boxAt (j:=0) rfl).2,_,(S.boxAt (j:=0) rfl).1,au,r⟩
  have H:=Zy H ao;refine ZF S rfl ao (wp_skip (Zc (bS _ _ (sr (mw S rfl fun f S=>oe (Zh fun _ cf=>sr (mv S rfl fun f S=>ov S rfl (ZR S au rfl rfl ZI) fun f S=>mv S rfl fun f S=>oe ?_)))))));obtain ⟨cg,ch,ci⟩:=Zb H;refine ZP (fun f w=>∃ (aC : (List Int)) (aN : List Value) (aD : Zd),aC = cg ∧ Zd.le a5 aD ∧ St 79 ⟨R,[a]⟩ o [] [Loc.box a E (pre0 ++ aN ++ post0)] aD f w ∧ Rep.rels (Ze .u64) aD aN aC ∧ g = aC.length) (fun _ cj=>?_) ?_
  · have H:=ch;refine wp_block ?_;obtain ⟨c9,ck,cl⟩:=Zb H;refine ZMa ck (fun cm f w=>∃ (ad : (List Int)) (ap : Int) (d : Int) (B : List Value) (ae : Zd),(ad,ap,d) = cm ∧ Zd.le a5 ae ∧ St 79 ⟨R,[a]⟩ o [(0,.slice (some ⟨a,off0,none⟩) (g) C),(7,.slice (mkA (some ac)) (s) G),(14,.int .u64 (ap)),(58,.int .i64 ((u.length : Int))),(59,.int .i64 (d))] [Loc.box a E (pre0 ++ B ++ post0),Loc.own (some ac) 86 1 (s) G ((List.take (0 + ((((Zj 18446744073709551616 v)).length : Int)).toNat * 1) h ++ [Value.int IntKind.u64 (b)] ++ List.drop (0 + ((((Zj 18446744073709551616 v)).length : Int)).toNat * 1 + 1) h))] ae f w ∧ Rep.rels (Ze .u64) ae B ad ∧ g = ad.length ∧ inR .u64 ap ∧ inR .i64 d) ⟨_,_,_,cs0,_,rfl,(leR _),(S.fr' rfl),r,au,(by decide),(by decide)⟩ ?_;rintro _ f w st ⟨ad,ap,d,B,ae,hq,aO,S,af,Q,da,db⟩ H dc cn co;subst hq;have p:=Zaa aO p;refine sr (ov S rfl (Zi S rfl rfl Zga) fun f S=>oe (Zh fun _ cp=>?_));rcases Zx (decide (d < (u.length : Int))) with aq | aq
    · have H:=Zw H aq;refine ZH S rfl aq (wp_skip (Zc (cp _ _ (Zh fun _ cq=>wp_block (sr (mv S rfl fun f S=>mw S rfl fun f S=>oe ?_))))));obtain ⟨a7,aE,H⟩:=Zb H;obtain ⟨a8,aF,H⟩:=Zb H;obtain ⟨U,aP,H⟩:=Zb H;obtain ⟨dd,ar,H⟩:=Zb H;refine Zia (fl:=#[true,true,true,true,true,true,true,true,true,true,true,false,true,true,true,true,false,false]) Zja (by kernel_rfl) S ?_;intro ops O F w S;refine rfa O F 0 rfl rfl S (Zs S rfl) fun f S=>rfa O F 1 rfl rfl S (Zs S rfl) fun f S=>rfa O F 2 rfl rfl S (Zs S rfl) fun f S=>rfa O F 3 rfl rfl S (Zs S rfl) fun f S=>?_;have a9:=ZKa af (Zk aE).2.1;obtain ⟨de,ba⟩ : ∃ c,(List.take (Ze .u64).n (List.drop ((d).toNat * (Ze .u64).n) B)) = c:=⟨_,rfl⟩;rw [ba] at a9;obtain ⟨rfl,cr⟩:=a9;refine rfa O F 4 rfl rfl S (ZT S rfl rfl ZI (Zk aE).1 (ltI Q (Zk aE).2.2.1)) fun f S=>rfa O F 5 rfl rfl S (Zoa S rfl Z6 (Zpf S (j:=0) rfl aG (Zrc af Q) ba (ltN Q (Zk aE).2.2.2) 0 [.int .u64 (a7)] rfl zl)) fun f S=>rfa O F 6 rfl rfl S (Zs S rfl) fun f S=>rfa O F 7 rfl rfl S (Zs S rfl) fun f S=>?_;have bb:=ZKa p (Zk aF).2.1;obtain ⟨df,bc⟩ : ∃ c,(List.take (Ze .u64).n (List.drop ((d).toNat * (Ze .u64).n) (List.take (0 + ((((Zj 18446744073709551616 v)).length : Int)).toNat * 1) h ++ [Value.int IntKind.u64 (b)] ++ List.drop (0 + ((((Zj 18446744073709551616 v)).length : Int)).toNat * 1 + 1) h))) = c:=⟨_,rfl⟩
      rw [bc] at bb;obtain ⟨rfl,ct⟩:=bb;refine rfa O F 8 rfl rfl S (ZT S rfl rfl ZI (Zk aF).1 (ltI aM (Zk aF).2.2.1)) fun f S=>rfa O F 9 rfl rfl S (Zoa S rfl Z6 (Zpe S (j:=1) rfl bc (ltN aM (Zk aF).2.2.2) 0 [.int .u64 (a8)] rfl zl)) fun f S=>rfa O F 10 rfl rfl S (Zs S rfl) fun f S=>go1 O F 11 (nva [5,9,10,4,8,2,3,6,7] [0,1] O rfl rfl S (Zkb S [.int .u64 (a7),.int .u64 (a8),.int .u64 (ap)] (ZVj Zhi cr ct aP) rfl rfl) fun f S=>⟨(py S rfl rfl (Zs S rfl) (py S rfl rfl (Zs S rfl) Zr)),rfa O F 12 rfl rfl S (Zs S rfl) fun f S=>rfa O F 13 rfl rfl S (ZA S rfl rfl) fun f S=>rfa O F 14 rfl rfl S (ZA S rfl rfl) fun f S=>?_⟩);have bd:=ZKa af (Zk ar).2.1;obtain ⟨dg,cu⟩ : ∃ c,(List.take (Ze .u64).n (List.drop ((d).toNat * (Ze .u64).n) B)) = c:=⟨_,rfl⟩;rw [cu] at bd;obtain ⟨rfl,dh⟩:=bd;refine rfa O F 15 rfl rfl S (ZT S rfl rfl ZI (Zk ar).1 (ltI Q (Zk ar).2.2.1)) fun f S=>go1 O F 16 ?_;obtain ⟨w,cv,S⟩:=ZYl S (k:=(d).toNat) Z6 (z:=.int .u64 (U.1)) (c:=[.int .u64 (U.1)]) (Zxb rfl) rfl (i:=0) rfl aG (Zrc af Q) (ltN Q (Zk ar).2.2.2) rfl (by first | rfl | simp [ZEa]);have cw : Rep.rels (Ze .u64) ae (List.take (0 + (d).toNat * 1) B ++ [Value.int IntKind.u64 (U.1)] ++ List.drop (0 + (d).toNat * 1 + 1) B) (ad.set (d).toNat U.1):=ZEb af (Zk ar).2.2.2 (show Rep.rel (Ze .u64) ae [.int .u64 (U.1)] _ from (Zv (ZBi aP))) rfl rfl
      have cx : g = (ad.set (d).toNat U.1).length:=Zwb Q;refine nxs [0,1,2,3,4,5,6,7,8,9,10,11,12,13,15] [14] O rfl rfl (cv rfl rfl) (⟨(py S rfl rfl (ZA S rfl rfl) Zr),go1 O F 17 (nva [0,1,2,3,4,5,6,7,8,9,10,11,12,13,14,15,16] [] O rfl rfl S (Zka S rfl) fun f S=>⟨Zr,Z1 O F (Zsa (Zc (cq _ _ ?_)))⟩)⟩);obtain ⟨di,be,H⟩:=Zb H;refine Zm (ov S rfl (Zi S rfl rfl (Zca be)) fun f S=>mv S rfl fun f S=>Zl ?_);obtain rfl:=Zg H;refine cn _ rfl _ _ ⟨_,_,_,(List.take (0 + (d).toNat * 1) B ++ [Value.int IntKind.u64 (U.1)] ++ List.drop (0 + (d).toNat * 1 + 1) B),_,rfl,aO,(S.fr' rfl),cw,cx,(ZUj aP),(Zma be).2⟩
    have H:=Zy H aq;refine ZF S rfl aq (wp_exit (ZZ ?_));obtain rfl:=Zg H;have hq:=co _ rfl;subst hq;have H:=cl;refine ZZ (ZBa ?_);obtain rfl:=Zg H;have S:=S.reorder (ℓ':=[Loc.box a E (pre0 ++ B ++ post0)]) [0] rfl (by decide);refine Zc (cj _ _ ⟨_,B,_,rfl,(leT (leR _) aO),(S.fr' rfl),af,Q⟩)
  rintro f w ⟨aC,aN,aD,hq,dj,S,cy,cz⟩;subst hq;have H:=ci;refine Zc (cf _ _ (sr (mw S rfl fun f S=>oe (wp_ret ?_))));obtain rfl:=Zg H;refine Zxh S (ZL rfl (ZD S rfl)) ⟨⟨[.bool (true)],rfl,ZUa⟩,(S.boxAt (j:=0) rfl).2,_,(S.boxAt (j:=0) rfl).1,cz,cy⟩
theorem take_c {d : World} {a : Zd} (hv : VIn a d) {b off0 c e : Nat} {f : TypeId} {pre0 cs0 post0 : List Value} {u : (List Int)} (l : d.heap[b]? = some (.cells (pre0 ++ cs0 ++ post0).toArray f (0,0))) (m : off0 = pre0.length) (n : a b = none) (o : c = u.length) (p : c ≤ e ∧ e ≤ maxLen) (g : Rep.rels (Ze .u64) a cs0 u) {h : List Value} {v : Nat} (r : Rep.rel Zu a h v) {i : List Value} {q : Int} (j : Rep.rel (Ze .u64) a i q) {z : Bool × (List Int)} (hm : Zce u v q = some z) :
    RetL Try.prog 77 #[Value.slice (some ⟨b,off0,none⟩) c e,Zu.val h,(Ze .u64).val i] d a [b] (fun y v' w'=>(∃ k,y = Zha.val k ∧ Zha.rel v' k z.1) ∧ v' b = none ∧ ∃ cs,w'.heap[b]? = some (.cells (pre0 ++ cs ++ post0).toArray f (0,0)) ∧ c = z.2.length ∧ Rep.rels (Ze .u64) v' cs z.2) :=
  take_w hv l m n o p g r j (ZNk (Z1h g) j.2 hm)
theorem digit_w {x : World} {m : Zd} (hv : VIn m x) {a off0 e h : Nat} {A : TypeId} {pre0 cs0 post0 : List Value} {u : (List Int)} (a0 : x.heap[a]? = some (.cells (pre0 ++ cs0 ++ post0).toArray A (0,0))) (G : off0 = pre0.length) (a1 : m a = none) (k : e = u.length) (a2 : e ≤ h ∧ h ≤ maxLen) (d : Rep.rels (Ze .u64) m cs0 u) {c1 : List Value} {v : Nat} (g : Rep.rel Zu m c1 v) {z : Int × (List Int)} (H : ZPf u v = some z) : RetL Try.prog 62 #[.slice (some ⟨a,off0,none⟩) e h,Zu.val c1] x m [a] (fun y v' w'=>(∃ r0,y = (Ze .u64).val r0 ∧ (Ze .u64).rel v' r0 z.1) ∧ v' a = none ∧ ∃ cs,w'.heap[a]? = some (.cells (pre0 ++ cs ++ post0).toArray A (0,0)) ∧ e = z.2.length ∧ Rep.rels (Ze .u64) v' cs z.2):=by
  obtain ⟨q1,o,p,rfl⟩:=ZU g;refine Z3j (K:=90) (args:=[.slice (some ⟨a,off0,none⟩) (e) h,.slice q1 o p]) hv a0 a1 Try.func62 rfl rfl zl fun f S=>?_;unfold ZPf at H;refine sr (mw S rfl fun f S=>oe (sr (mv S rfl fun f S=>ov S rfl (ZR S (ZE g) rfl rfl ZI) fun f S=>mw S rfl fun f S=>oe (sr (mw S rfl fun f S=>oe (Zh fun _ a3=>Zh fun _ a4=>?_))))));obtain ⟨aE,V,H⟩:=Zb H;obtain ⟨cf,a5,H⟩:=Zb H;obtain ⟨a6,aj,H⟩:=Zb H;refine Zia (fl:=#[true,true,true,true,true,true,true,true,true,true]) Zja (by kernel_rfl) S ?_;intro ops O F w S;refine rfa O F 0 rfl rfl S (Zs S rfl) fun f S=>rfa O F 1 rfl rfl S (Zs S rfl) fun f S=>?_;have aF:=ZKa d (Zk V).2.1;obtain ⟨cg,aG⟩ : ∃ c,(List.take (Ze .u64).n (List.drop (((((Zj 18446744073709551616 v)).length : Int)).toNat * (Ze .u64).n) cs0)) = c:=⟨_,rfl⟩;rw [aG] at aF;obtain ⟨rfl,ch⟩:=aF;refine rfa O F 2 rfl rfl S (ZT S rfl rfl ZI (Zk V).1 (ltI k (Zk V).2.2.1)) fun f S=>rfa O F 3 rfl rfl S (Zoa S rfl Z6 (Zpf S (j:=0) rfl G (Zrc d k) aG (ltN k (Zk V).2.2.2) 0 [.int .u64 (aE)] rfl zl)) fun f S=>rfa O F 4 rfl rfl S (Zs S rfl) fun f S=>rfa O F 5 rfl rfl S (Zs S rfl) fun f S=>rfa O F 6 rfl rfl S (Zi S rfl rfl (Zza a5)) fun f S=>?_;obtain ⟨_,r,s,ci,rfl,a7,a8⟩:=ZFa g (Zk aj).2.1
  obtain ⟨rfl,cj⟩:=a8;refine rfa O F 7 rfl rfl S (ZT S rfl rfl ZI (Zk aj).1 (ltI (ZE g) (Zk aj).2.2.1)) fun f S=>rfa O F 8 rfl rfl S (Zoa S rfl Z6 (S.view a7)) fun f S=>rfa O F 9 rfl rfl S (Zi S rfl rfl Zga) fun f S=>Z1 O F (Zc (a4 _ _ ?_));obtain ⟨a9,ba,bb⟩:=Zb H;refine ZP (fun f w=>∃ (W : Int) (I : Zd),W = a9 ∧ Zd.le m I ∧ St 90 ⟨x,[a]⟩ m [(0,.slice (some ⟨a,off0,none⟩) (e) h),(1,.slice (some ⟨r,s,none⟩) o p),(6,.int .u64 (W))] [Loc.box a A (pre0 ++ cs0 ++ post0)] I f w ∧ inR .u64 W) (fun _ aH=>?_) ?_
  · have H:=ba;rcases Zx (decide (aE < a6)) with J | J
    · have H:=Zw H J;refine ZH S rfl J (sr (mw S rfl fun f S=>oe (Zh fun _ bc=>?_)));obtain ⟨X,Y,H⟩:=Zb H;obtain ⟨bd,be,H⟩:=Zb H;obtain ⟨Z,aa,H⟩:=Zb H;obtain ⟨ck,bf,H⟩:=Zb H;obtain ⟨ak,al,H⟩:=Zb H;obtain ⟨aI,bg,H⟩:=Zb H;refine Zia (fl:=#[true,true,true,true,true,true,true,true,true,true,true,true,true,true,false,true,true,true,false,false]) Zja (by kernel_rfl) S ?_;intro ops O F w S;refine rfa O F 0 rfl rfl S (Zs S rfl) fun f S=>rfa O F 1 rfl rfl S (Zs S rfl) fun f S=>?_;have aJ:=ZKa d (Zk Y).2.1;obtain ⟨cl,aK⟩ : ∃ c,(List.take (Ze .u64).n (List.drop (((((Zj 18446744073709551616 v)).length : Int)).toNat * (Ze .u64).n) cs0)) = c:=⟨_,rfl⟩;rw [aK] at aJ;obtain ⟨rfl,bh⟩:=aJ;refine rfa O F 2 rfl rfl S (ZT S rfl rfl ZI (Zk Y).1 (ltI k (Zk Y).2.2.1)) fun f S=>rfa O F 3 rfl rfl S (Zoa S rfl Z6 (Zpf S (j:=0) rfl G (Zrc d k) aK (ltN k (Zk Y).2.2.2) 0 [.int .u64 (X)] rfl zl)) fun f S=>rfa O F 4 rfl rfl S (Zs S rfl) fun f S=>rfa O F 5 rfl rfl S (Zs S rfl) fun f S=>rfa O F 6 rfl rfl S (Zi S rfl rfl (Zza be)) fun f S=>?_;have aL:=ZKa d (Zk aa).2.1;obtain ⟨cm,aM⟩ : ∃ c,(List.take (Ze .u64).n (List.drop ((bd).toNat * (Ze .u64).n) cs0)) = c:=⟨_,rfl⟩
      rw [aM] at aL;obtain ⟨rfl,bi⟩:=aL;refine rfa O F 7 rfl rfl S (ZT S rfl rfl ZI (Zk aa).1 (ltI k (Zk aa).2.2.1)) fun f S=>rfa O F 8 rfl rfl S (Zoa S rfl Z6 (Zpf S (j:=0) rfl G (Zrc d k) aM (ltN k (Zk aa).2.2.2) 0 [.int .u64 (Z)] rfl zl)) fun f S=>rfa O F 9 rfl rfl S (Zs S rfl) fun f S=>rfa O F 10 rfl rfl S (Zs S rfl) fun f S=>rfa O F 11 rfl rfl S (Zi S rfl rfl (Zza bf)) fun f S=>?_;obtain ⟨cn,am,bj⟩:=Zmb g (Zk al).2.1;obtain ⟨rfl,bk⟩:=bj;refine rfa O F 12 rfl rfl S (ZT S rfl rfl ZI (Zk al).1 (ltI (ZE g) (Zk al).2.2.1)) fun f S=>rfa O F 13 rfl rfl S (Zoa S rfl Z6 (S.view am)) fun f S=>go1 O F 14 (nxc [3,8,13,2,7,12,0,1,4,6,9,11,5,10] [] O rfl S rfl (Zo S [.int .u64 (X),.int .u64 (Z),.int .u64 (ak)] Zdk rfl rfl) (Zsj S.vin (show Rep.rel (Ze .u64) _ [.int .u64 (X)] X from (Zv bh)) (show Rep.rel (Ze .u64) _ [.int .u64 (Z)] Z from (Zv bi)) (show Rep.rel (Ze .u64) _ [.int .u64 (ak)] ak from (Zv bk)) bg) ?_);rintro _ aN f w ab ⟨co,cp,rfl,bm,bn⟩ S;have d:=Zaa ab d;have am:=Atm ab am;obtain ⟨rfl,bo⟩:=bm;obtain ⟨rfl,bp⟩:=bn;refine ⟨Zr,rfa O F 15 rfl rfl S (Zs S rfl) fun f S=>rfa O F 16 rfl rfl S (ZA S rfl rfl) fun f S=>rfa O F 17 rfl rfl S (ZA S rfl rfl) fun f S=>go1 O F 18 (nva [0,1,2,3,4,5,6,7,8,9,10,11,12,13,14,15,16] [17] O rfl rfl S (Zka S rfl) fun f S=>⟨(py S rfl rfl (ZA S rfl rfl) Zr),go1 O F 19 (nva [0,1,2,3,4,5,6,7,8,9,10,11,12,13,14,15,16,17,18] [] O rfl rfl S (Zka S rfl) fun f S=>⟨Zr,Z1 O F ?_⟩)⟩)⟩
      have S:=S.fr' (σ':=[(0,.slice (some ⟨a,off0,none⟩) (e) h),(1,.slice (some ⟨r,s,none⟩) o p),(5,.int .i64 ((((Zj 18446744073709551616 v)).length : Int))),(6,.int .u64 (aI.1)),(7,.int .u64 (aI.2))]) rfl;refine Zc (bc _ _ ?_);obtain ⟨bq,br,bs⟩:=Zb H;refine ZP (fun f w=>∃ (ac : Int) (an : Zd),ac = bq ∧ Zd.le aN an ∧ St 90 ⟨x,[a]⟩ m [(0,.slice (some ⟨a,off0,none⟩) (e) h),(1,.slice (some ⟨r,s,none⟩) o p),(6,.int .u64 (ac))] [Loc.box a A (pre0 ++ cs0 ++ post0)] an f w ∧ inR .u64 ac) (fun _ aO=>?_) ?_
      · have H:=br;refine wp_block ?_;obtain ⟨cq,bt,aP⟩:=Zb H;refine ZMa bt (fun bu f w=>∃ (q : Int) (l : Int) (ao : Zd),(q,l) = bu ∧ Zd.le aN ao ∧ St 90 ⟨x,[a]⟩ m [(0,.slice (some ⟨a,off0,none⟩) (e) h),(1,.slice (some ⟨r,s,none⟩) o p),(5,.int .i64 ((((Zj 18446744073709551616 v)).length : Int))),(6,.int .u64 (q)),(7,.int .u64 (l))] [Loc.box a A (pre0 ++ cs0 ++ post0)] ao f w ∧ inR .u64 q ∧ inR .u64 l) ⟨_,_,_,rfl,(leR _),(S.fr' rfl),bo,bp⟩ ?_;rintro _ f w st ⟨q,l,ao,hq,L,S,aQ,cr⟩ H ct bv aR;subst hq;have d:=Zaa L d;refine wp_block (Zh fun _ bw=>?_);obtain ⟨cu,bx,H⟩:=Zb H;obtain ⟨ap,aq,H⟩:=Zb H;obtain ⟨B,bz,H⟩:=Zb H;refine Zm (mv S rfl fun f S=>mv S rfl fun f S=>mv S rfl fun f S=>ov S rfl (Zi S rfl rfl (Zza bx)) fun f S=>?_);have g:=Zp (leT ab L) g;obtain ⟨cv,ar,bA⟩:=Zmb g (Zk aq).2.1;obtain ⟨rfl,bB⟩:=bA;refine ov S rfl (ZT S rfl rfl ZI (Zk aq).1 (ltI (ZE g) (Zk aq).2.2.1)) fun f S=>ov S rfl (Zoa S rfl Z6 (S.view ar)) fun f S=>opc S rfl (Zo S [.int .u64 (q),.int .u64 (ap)] Zph rfl rfl) (ZPh S.vin (show Rep.rel (Ze .u64) _ [.int .u64 (q)] q from (Zv aQ)) (show Rep.rel (Ze .u64) _ [.int .u64 (ap)] ap from (Zv bB)) bz) ?_
        rintro _ bC f w D ⟨cw,cx,rfl,bD,bE⟩ S;have d:=Zaa D d;have ar:=Atm D ar;obtain ⟨rfl,cy⟩:=bD;obtain ⟨rfl,cz⟩:=bE;refine mv S rfl fun f S=>ov S rfl (ZA S rfl rfl) fun f S=>ov S rfl (ZA S rfl rfl) fun f S=>mw S rfl fun f S=>mw S rfl fun f S=>Zl (Zc (bw _ _ (Zh fun _ bF=>Zh fun _ bG=>?_)));obtain ⟨bH,bI,bJ⟩:=Zb H;refine ZP (fun f w=>∃ (ad : Bool) (au : Zd),ad = bH ∧ Zd.le bC au ∧ St 90 ⟨x,[a]⟩ m [(0,.slice (some ⟨a,off0,none⟩) (e) h),(1,.slice (some ⟨r,s,none⟩) o p),(5,.int .i64 ((((Zj 18446744073709551616 v)).length : Int))),(6,.int .u64 (q)),(7,.int .u64 (l)),(67,.bool (ad))] [Loc.box a A (pre0 ++ cs0 ++ post0)] au f w) (fun _ av=>?_) ?_
        · have H:=bI;rcases Zx (decide (B.1 < l)) with E | E
          · have H:=Zw H E;refine Zm (mv S rfl fun f S=>mv S rfl fun f S=>ov S rfl (Zi S rfl rfl Zga) fun f S=>?_);have S:=S.bool (t:=53) rfl E;refine mv S rfl fun f S=>opn S rfl rfl rfl rfl fun f S=>opn S rfl rfl rfl rfl fun f S=>opn S rfl rfl rfl rfl fun f S=>opn S rfl rfl rfl rfl fun f S=>Zed S (Zyd S rfl rfl rfl zl) rfl zl fun f S=>Zed S (Zyd S rfl rfl rfl zl) rfl zl fun f S=>Zed S (Zyd S rfl rfl rfl zl) rfl zl fun f S=>Zed S (Zyd S rfl rfl rfl zl) rfl zl fun f S=>Zed S (Zyd S rfl rfl rfl zl) rfl zl fun f S=>Zed S (Zyd S rfl rfl rfl zl) rfl zl fun f S=>Zed S (Zyd S rfl rfl rfl zl) rfl zl fun f S=>opn S rfl rfl rfl rfl fun f S=>ov S rfl (ZG S (b:=true) rfl rfl) fun f S=>?_;refine Zl ?_;have S:=S.fr' (σ':=[(0,.slice (some ⟨a,off0,none⟩) (e) h),(1,.slice (some ⟨r,s,none⟩) o p),(5,.int .i64 ((((Zj 18446744073709551616 v)).length : Int))),(6,.int .u64 (q)),(7,.int .u64 (l)),(55,undef),(56,undef),(57,undef),(58,undef),(59,undef),(60,undef),(61,undef),(62,undef),(63,undef),(64,undef),(65,undef),(66,undef),(67,.bool (true))]) rfl;obtain rfl:=Zg H;refine Zc (av _ _ ⟨_,_,rfl,(leR _),(S.fr' rfl)⟩)
          have H:=Zy H E;rcases Zx (B.1 == l) with M | M
          · have H:=Zw H M;obtain ⟨aw,bK,H⟩:=Zb H;obtain ⟨N,ae,H⟩:=Zb H;refine Zm (mv S rfl fun f S=>mv S rfl fun f S=>ov S rfl (Zi S rfl rfl Zga) fun f S=>?_);have S:=S.bool (t:=53) rfl E;refine mv S rfl fun f S=>opy S rfl rfl rfl rfl (Zs S rfl) fun f S=>opy S rfl rfl rfl rfl (Zs S rfl) fun f S=>opy S rfl rfl rfl rfl (Zi S rfl rfl Zpa) fun f S=>?_;have S:=S.bool (t:=57) rfl M;refine opy S rfl rfl rfl rfl (Zs S rfl) fun f S=>opy S rfl rfl rfl rfl (Zs S rfl) fun f S=>opy S rfl rfl rfl rfl (Zs S rfl) fun f S=>opy S rfl rfl rfl rfl (Zs S rfl) fun f S=>opy S rfl rfl rfl rfl (Zi S rfl rfl (Zza bK)) fun f S=>?_;have aS:=ZKa d (Zk ae).2.1;obtain ⟨cA,aT⟩ : ∃ c,(List.take (Ze .u64).n (List.drop ((aw).toNat * (Ze .u64).n) cs0)) = c:=⟨_,rfl⟩;rw [aT] at aS;obtain ⟨rfl,cB⟩:=aS;refine opy S rfl rfl rfl rfl (ZT S rfl rfl ZI (Zk ae).1 (ltI k (Zk ae).2.2.1)) fun f S=>opy S rfl rfl rfl rfl (Zoa S rfl Z6 (Zpf S (j:=0) rfl G (Zrc d k) aT (ltN k (Zk ae).2.2.2) 0 [.int .u64 (N)] rfl zl)) fun f S=>opy S rfl rfl rfl rfl (Zi S rfl rfl Z9b) fun f S=>opy S rfl rfl rfl rfl (ZG S (b:=true) rfl rfl) fun f S=>ov S rfl (ZG S (b:=false) rfl rfl) fun f S=>Zl ?_;have S:=S.fr' (σ':=[(0,.slice (some ⟨a,off0,none⟩) (e) h),(1,.slice (some ⟨r,s,none⟩) o p),(5,.int .i64 ((((Zj 18446744073709551616 v)).length : Int))),(6,.int .u64 (q)),(7,.int .u64 (l)),(55,.int .u64 (B.1)),(56,.int .u64 (l)),(57,.bool (true)),(58,.bool (true)),(59,.int .u64 (B.2)),(60,.slice (some ⟨a,off0,none⟩) (e) h),(61,.int .i64 ((((Zj 18446744073709551616 v)).length : Int))),(62,.int .i64 (aw)),(63,.pointer (some ⟨a,off0 + (aw).toNat * 1,none⟩)),(64,.int .u64 (N)),(65,.bool (decide (B.2 ≤ N))),(66,.bool (decide (B.2 ≤ N))),(67,.bool (decide (B.2 ≤ N)))]) rfl
            obtain rfl:=Zg H;refine Zc (av _ _ ⟨_,_,rfl,(leR _),(S.fr' rfl)⟩)
          have H:=Zy H M;refine Zm (mv S rfl fun f S=>mv S rfl fun f S=>ov S rfl (Zi S rfl rfl Zga) fun f S=>?_);have S:=S.bool (t:=53) rfl E;refine mv S rfl fun f S=>opy S rfl rfl rfl rfl (Zs S rfl) fun f S=>opy S rfl rfl rfl rfl (Zs S rfl) fun f S=>opy S rfl rfl rfl rfl (Zi S rfl rfl Zpa) fun f S=>?_;have S:=S.bool (t:=57) rfl M;refine opy S rfl rfl rfl rfl (Zs S rfl) fun f S=>opn S rfl rfl rfl rfl fun f S=>opn S rfl rfl rfl rfl fun f S=>opn S rfl rfl rfl rfl fun f S=>opn S rfl rfl rfl rfl fun f S=>opn S rfl rfl rfl rfl fun f S=>opn S rfl rfl rfl rfl fun f S=>opn S rfl rfl rfl rfl fun f S=>opy S rfl rfl rfl rfl (ZG S (b:=false) rfl rfl) fun f S=>ov S rfl (ZG S (b:=false) rfl rfl) fun f S=>Zl ?_;have S:=S.fr' (σ':=[(0,.slice (some ⟨a,off0,none⟩) (e) h),(1,.slice (some ⟨r,s,none⟩) o p),(5,.int .i64 ((((Zj 18446744073709551616 v)).length : Int))),(6,.int .u64 (q)),(7,.int .u64 (l)),(55,.int .u64 (B.1)),(56,.int .u64 (l)),(57,.bool (false)),(58,.bool (false)),(59,undef),(60,undef),(61,undef),(62,undef),(63,undef),(64,undef),(65,undef),(66,.bool (false)),(67,.bool (false))]) rfl;obtain rfl:=Zg H;refine Zc (av _ _ ⟨_,_,rfl,(leR _),(S.fr' rfl)⟩)
        rintro f w ⟨ad,au,hq,P,S⟩;subst hq;have H:=bJ;have d:=Zaa P d;refine Zc (bG _ _ ?_);rcases Zx (ad) with Q | Q
        · have H:=Zw H Q;refine ZH S rfl Q (wp_exit (ZZ (Z4f rfl ?_)));obtain rfl:=Zg H;have hq:=aR _ rfl;subst hq;have H:=aP;refine ZZ (ZBa ?_);obtain rfl:=Zg H;refine Zc (aO _ _ ⟨_,_,rfl,(leT (leT (leT (leR _) L) D) P),(S.fr' rfl),aQ⟩)
        have H:=Zy H Q;refine ZF S rfl Q (wp_skip (Zc (bF _ _ (sr (mv S rfl fun f S=>ov S rfl (Zi S rfl rfl ZXc) fun f S=>mw S rfl fun f S=>oe (sr (mw S rfl fun f S=>oe (Zh fun _ bL=>?_))))))));obtain ⟨cD,bM,H⟩:=Zb H;obtain ⟨bN,ax,H⟩:=Zb H;obtain ⟨bO,aU,H⟩:=Zb H;refine Zm (mv S rfl fun f S=>mv S rfl fun f S=>mv S rfl fun f S=>ov S rfl (Zi S rfl rfl (Zza bM)) fun f S=>?_);have g:=Zp (leT D P) g;obtain ⟨cE,bP,bQ⟩:=Zmb g (Zk ax).2.1;obtain ⟨rfl,cF⟩:=bQ;refine ov S rfl (ZT S rfl rfl ZI (Zk ax).1 (ltI (ZE g) (Zk ax).2.2.1)) fun f S=>ov S rfl (Zoa S rfl Z6 (S.view bP)) fun f S=>ov S rfl (Zkb S [.int .u64 (l),.int .u64 (bN),.int .u64 ((0 : Int))] (Z5e ZHf aU) rfl rfl) fun f S=>mv S rfl fun f S=>ov S rfl (ZA S rfl rfl) fun f S=>ov S rfl (ZA S rfl rfl) fun f S=>mw S rfl fun f S=>mw S rfl fun f S=>Zl (Zc (bL _ _ (sr (mv S rfl fun f S=>ov S rfl (Zi S rfl rfl Zya) fun f S=>oe ?_))));rcases Zx (decide ((0 : Int) < bO.2)) with R | R
        · have H:=Zw H R;refine ZH S rfl R (wp_exit (Z4f rfl ?_));obtain rfl:=Zg H;have hq:=aR _ rfl;subst hq;have H:=aP;refine ZZ (ZBa ?_);obtain rfl:=Zg H;refine Zc (aO _ _ ⟨_,_,rfl,(leT (leT (leT (leR _) L) D) P),(S.fr' rfl),(ZPa _ _)⟩)
        have H:=Zy H R;refine ZF S rfl R (wp_skip (Zsa ?_));obtain rfl:=Zg H;refine bv _ rfl _ _ ⟨_,_,_,rfl,(leT (leT L D) P),(S.fr' rfl),(ZPa _ _),(Zjg aU)⟩
      rintro f w ⟨ac,an,hq,aV,S,bR⟩;subst hq;have H:=bs;have d:=Zaa aV d;obtain rfl:=Zg H;refine Zc (aH _ _ ⟨_,_,rfl,(leT (leT (leR _) ab) aV),(S.fr' rfl),bR⟩)
    have H:=Zy H J;refine ZF S rfl J (wp_skip ?_);obtain rfl:=Zg H;refine Zc (aH _ _ ⟨_,_,rfl,(leR _),(S.fr' rfl),(by decide)⟩)
  rintro f w ⟨W,I,hq,aW,S,bS⟩;subst hq;have H:=bb;have d:=Zaa aW d;refine Zc (a3 _ _ (Zh fun _ bT=>?_));obtain ⟨bU,bV,bW⟩:=Zb H;refine ZP (fun f w=>∃ (af : (List Int)) (T : Int) (ay : List Value) (ag : Zd),(af,T) = bU ∧ Zd.le I ag ∧ St 90 ⟨x,[a]⟩ m [(6,.int .u64 (T))] [Loc.box a A (pre0 ++ ay ++ post0)] ag f w ∧ Rep.rels (Ze .u64) ag ay af ∧ e = af.length ∧ inR .u64 T) (fun _ bX=>?_) ?_
  · have H:=bV;refine wp_block ?_;obtain ⟨cG,bY,bZ⟩:=Zb H;refine ZMa bY (fun b1 f w=>∃ (ah : (List Int)) (C : Int) (az : List Value) (ai : Zd),(ah,C) = b1 ∧ Zd.le I ai ∧ St 90 ⟨x,[a]⟩ m [(0,.slice (some ⟨a,off0,none⟩) (e) h),(1,.slice (some ⟨r,s,none⟩) o p),(6,.int .u64 (C))] [Loc.box a A (pre0 ++ az ++ post0)] ai f w ∧ Rep.rels (Ze .u64) ai az ah ∧ e = ah.length ∧ inR .u64 C) ⟨_,_,cs0,_,rfl,(leR _),(S.fr' rfl),d,k,bS⟩ ?_;rintro _ f w st ⟨ah,C,az,ai,hq,aA,S,aB,b2,aX⟩ H cH b3 b4;subst hq;refine Zh fun _ b5=>Zh fun _ b6=>?_;obtain ⟨b7,b8,H⟩:=Zb H;refine Zm (mv S rfl fun f S=>mv S rfl fun f S=>mv S rfl fun f S=>?_);have g:=Zp (leT aW aA) g;refine Zqi S wn rfl zl (Zo S [.slice (some ⟨a,off0,none⟩) (e) h,.slice (some ⟨r,s,none⟩) o p,.int .u64 (C)] k_en77 rfl rfl) (i:=0) rfl rfl (take_c S.vin (S.boxAt (j:=0) rfl).1 G (S.boxAt (j:=0) rfl).2 b2 a2 aB g (show Rep.rel (Ze .u64) _ [.int .u64 (C)] C from (Zv aX)) b8) ?_;rintro _ cI f w aC ⟨⟨cJ,rfl,b9⟩,ca,aD,cb,aY,aZ⟩ hSf;have aB:=Zaa aC aB;have S:=hSf (Loc.box a A (pre0 ++ aD ++ post0)) rfl cb ca;obtain rfl:=b9;refine ov S rfl (Zue S rfl) fun f S=>Zl (Zc (b6 _ _ ?_));rcases Zx (!(b7.1)) with U | U
    · have H:=Zw H U;refine ZH S rfl U (wp_skip (Zc (b5 _ _ (wp_block (Zm (mv S rfl fun f S=>ov S rfl (Zi S rfl rfl ZXc) fun f S=>mw S rfl fun f S=>Zl (Zsa ?_)))))));obtain rfl:=Zg H;refine b3 _ rfl _ _ ⟨_,_,aD,_,rfl,(leT aA aC),(S.fr' rfl),aZ,aY,(ZPa _ _)⟩
    have H:=Zy H U;refine ZF S rfl U (wp_exit (ZZ ?_));obtain rfl:=Zg H;have hq:=b4 _ rfl;subst hq;have H:=bZ;refine ZZ (ZBa ?_);obtain rfl:=Zg H;refine Zc (bX _ _ ⟨_,_,aD,_,rfl,(leT (leT (leR _) aA) aC),(S.fr' rfl),aZ,aY,aX⟩)
  rintro f w ⟨af,T,ay,ag,hq,cK,S,cc,cd,ce⟩;subst hq;have H:=bW;refine Zc (bT _ _ (sr (mv S rfl fun f S=>mw S rfl fun f S=>oe (wp_ret ?_))));obtain rfl:=Zg H;refine Zxh S (ZL rfl (ZD S rfl)) ⟨⟨[.int .u64 (T)],rfl,(Zv ce)⟩,(S.boxAt (j:=0) rfl).2,_,(S.boxAt (j:=0) rfl).1,cd,cc⟩
theorem digit_c {d : World} {b : Zd} (hv : VIn b d) {a off0 c e : Nat} {f : TypeId} {pre0 cs0 post0 : List Value} {u : (List Int)} (j : d.heap[a]? = some (.cells (pre0 ++ cs0 ++ post0).toArray f (0,0))) (k : off0 = pre0.length) (l : b a = none) (m : c = u.length) (n : c ≤ e ∧ e ≤ maxLen) (g : Rep.rels (Ze .u64) b cs0 u) {h : List Value} {v : Nat} (o : Rep.rel Zu b h v) {z : Int × (List Int)} (hm : ZGe u v = some z) :
    RetL Try.prog 62 #[Value.slice (some ⟨a,off0,none⟩) c e,Zu.val h] d b [a] (fun y v' w'=>(∃ i,y = (Ze .u64).val i ∧ (Ze .u64).rel v' i z.1) ∧ v' a = none ∧ ∃ cs,w'.heap[a]? = some (.cells (pre0 ++ cs ++ post0).toArray f (0,0)) ∧ c = z.2.length ∧ Rep.rels (Ze .u64) v' cs z.2) :=
  digit_w hv j k l m n g o (Znn (Z1h g) hm)
theorem left_w {I : World} {o : Zd} (hv : VIn o I) {c0 : List Value} {a : Nat} (g : Rep.rel Zu o c0 a) {c1 : List Value} {n : Int} (p1 : Rep.rel (Ze .i64) o c1 n) {z : Nat} (H : Zkf a n = some z) : Ret Try.prog 61 #[Zu.val c0,(Ze .i64).val c1] I o (fun y v'=>∃ r0,y = Zu.val r0 ∧ Zu.rel v' r0 z):=by
  obtain ⟨W,J,L,rfl⟩:=ZU g;obtain ⟨rfl,r4⟩:=p1;refine ZV (K:=58) (args:=[.slice W J L,.int .i64 (n)]) hv Try.func61 rfl rfl zl fun f S=>?_;unfold Zkf at H;refine sr (mw S rfl fun f S=>oe (Zh fun _ av=>Zh fun _ aw=>?_));obtain ⟨ax,ay,az⟩:=Zb H;refine ZP (fun f w=>∃ (X : Bool) (v : Zd),X = ax ∧ Zd.le o v ∧ St 58 I o [(0,.slice W J L),(1,.int .i64 (n)),(14,.bool (X))] [] v f w) (fun _ ag=>?_) ?_
  · have H:=ay;rcases Zx (((((Zj 18446744073709551616 a)).length : Int)) == ((0 : Int))) with M | M
    · have H:=Zw H M;refine Zm (mv S rfl fun f S=>ov S rfl (ZR S (ZE g) rfl rfl ZI) fun f S=>ov S rfl (Zi S rfl rfl Zpa) fun f S=>?_);have S:=S.bool (t:=10) rfl M;refine mv S rfl fun f S=>opn S rfl rfl rfl rfl fun f S=>opn S rfl rfl rfl rfl fun f S=>ov S rfl (ZG S (b:=true) rfl rfl) fun f S=>Zl ?_;obtain rfl:=Zg H;refine Zc (ag _ _ ⟨_,_,rfl,(leR _),(S.fr' rfl)⟩)
    have H:=Zy H M;refine Zm (mv S rfl fun f S=>ov S rfl (ZR S (ZE g) rfl rfl ZI) fun f S=>ov S rfl (Zi S rfl rfl Zpa) fun f S=>?_);have S:=S.bool (t:=10) rfl M;refine mv S rfl fun f S=>opy S rfl rfl rfl rfl (Zs S rfl) fun f S=>opy S rfl rfl rfl rfl (Zi S rfl rfl Zpa) fun f S=>ov S rfl (ZG S (b:=false) rfl rfl) fun f S=>Zl ?_;obtain rfl:=Zg H;refine Zc (ag _ _ ⟨_,_,rfl,(leR _),(S.fr' rfl)⟩)
  rintro f w ⟨X,v,hq,ah,S⟩;subst hq;have H:=az;refine Zc (aw _ _ ?_);rcases Zx (X) with N | N
  · have H:=Zw H N;refine ZH S rfl N (sr (mv S rfl fun f S=>mw S rfl fun f S=>oe (wp_ret (ZM ?_))));obtain rfl:=Zg H;have g:=Zp ah g;refine ZC S (ZL rfl (ZD S rfl)) ⟨[.slice W J L],rfl,g⟩
  have H:=Zy H N;refine ZF S rfl N (wp_skip (Zc (av _ _ (Zh fun _ aA=>?_))));obtain ⟨bo,aB,H⟩:=Zb H;obtain ⟨bp,aC,H⟩:=Zb H;obtain ⟨B,aD,H⟩:=Zb H;obtain ⟨bq,Y,H⟩:=Zb H;refine Zm (mv S rfl fun f S=>?_);have g:=Zp ah g;refine ov S rfl (ZR S (ZE g) rfl rfl ZI) fun f S=>mv S rfl fun f S=>ov S rfl (Zi S rfl rfl (Zhc aB)) fun f S=>ov S rfl (Zi S rfl rfl (Zca aC)) fun f S=>ov S rfl (Zi S rfl rfl (Zca aD)) fun f S=>?_;obtain ⟨ai,aj⟩ : ∃ c : List Value,c = (List.replicate (B).toNat [.int .u64 ((0 : Int))]).flatten:=⟨_,rfl⟩;obtain ⟨aE,w,aF,S⟩:=Z3c ZRb S (l:=B) (c:=B) (Zna Y).1 (Zna Y).2.1 (Zna Y).2.2.1 (Zna Y).2.2.2 aj;have aG : Rep.rels (Ze .u64) v ai (List.replicate (B).toNat ((0 : Int))):=by rw [aj];exact Zsc (show Rep.rel (Ze .u64) _ [.int .u64 ((0 : Int))] _ from (Zv (by decide))) _
  refine ZWa wn rfl zl (aF rfl rfl) S fun f S=>mw S rfl fun f S=>Zl (Zc (aA _ _ (Zh fun _ aH=>sr (mv S rfl fun f S=>ov S rfl (ZR S (ZE g) rfl rfl ZI) fun f S=>mv S rfl fun f S=>oe ?_))));obtain ⟨aI,aJ,aK⟩:=Zb H;refine ZP (fun f w=>∃ (C : (List Int)) (P : Option Nat) (D : Nat) (Q : Nat) (ac : List Value) (Z : Zd),C = aI ∧ Zd.le v Z ∧ St 58 I o [(5,.slice (mkA P) (D) Q)] [Loc.own P 86 1 (D) Q ac] Z f w ∧ Rep.rels (Ze .u64) Z ac C ∧ D = C.length) (fun _ aL=>?_) ?_
  · have H:=aJ;refine wp_block ?_;obtain ⟨br,aM,aN⟩:=Zb H;refine ZMa aM (fun aO f w=>∃ (p : (List Int)) (E : Int) (aa : Option Nat) (m : Nat) (G : Nat) (e : List Value) (q : Zd),(p,E) = aO ∧ Zd.le v q ∧ St 58 I o [(1,.int .i64 (n)),(5,.slice (mkA aa) (m) G),(23,.slice W J L),(24,.int .i64 ((((Zj 18446744073709551616 a)).length : Int))),(25,.int .i64 (E))] [Loc.own aa 86 1 (m) G e] q f w ∧ Rep.rels (Ze .u64) q e p ∧ m = p.length ∧ inR .i64 E) ⟨_,_,some aE,(B).toNat,(B).toNat,ai,_,rfl,(leR _),(S.fr' rfl),aG,(Zoc (x:=(0 : Int))),(by decide)⟩ ?_;rintro _ f w st ⟨p,E,aa,m,G,e,q,hq,ad,S,ab,s,bs⟩ H bt aP aQ;subst hq;refine sr (ov S rfl (Zi S rfl rfl Zga) fun f S=>oe (Zh fun _ aR=>?_));rcases Zx (decide (E < (((Zj 18446744073709551616 a)).length : Int))) with R | R
    · have H:=Zw H R;refine ZH S rfl R (wp_skip (Zc (aR _ _ (Zh fun _ aS=>wp_block (Zh fun _ aT=>?_)))));obtain ⟨bu,ae,H⟩:=Zb H;refine Zm (mv S rfl fun f S=>?_);have g:=Zp ad g;obtain ⟨_,aU,aV,bv,rfl,aW,aX⟩:=ZFa g (Zk ae).2.1;obtain ⟨rfl,aY⟩:=aX;refine ov S rfl (ZT S rfl rfl ZI (Zk ae).1 (ltI (ZE g) (Zk ae).2.2.1)) fun f S=>ov S rfl (Zoa S rfl Z6 (S.view aW)) fun f S=>mw S rfl fun f S=>mw S rfl fun f S=>Zl (Zc (aT _ _ (Zh fun _ aZ=>?_)));obtain ⟨bw,a0,H⟩:=Zb H;obtain ⟨d,a1,H⟩:=Zb H;obtain ⟨h,T,H⟩:=Zb H;obtain ⟨bx,a2,H⟩:=Zb H;obtain ⟨k,a3,H⟩:=Zb H;obtain ⟨bz,U,H⟩:=Zb H;refine Zia (fl:=#[true,true,true,true,true,true,true,true,true,true,true,true,true,false]) Zja (by kernel_rfl) S ?_;intro ops O F w S;refine rfa O F 0 rfl rfl S (Zs S rfl) fun f S=>rfa O F 1 rfl rfl S (Zs S rfl) fun f S=>rfa O F 2 rfl rfl S (Zs S rfl) fun f S=>rfa O F 3 rfl rfl S (Zi S rfl rfl (Zhc a0)) fun f S=>rfa O F 4 rfl rfl S (Zi S rfl rfl (Zca a1)) fun f S=>?_;obtain ⟨ak,rfl⟩:=ZPb S (j:=0) rfl (Z5b s (Zk T).2.2.2);have al:=ZKa ab (Zk T).2.1;obtain ⟨bA,am⟩ : ∃ c,(List.take (Ze .u64).n (List.drop ((d).toNat * (Ze .u64).n) e)) = c:=⟨_,rfl⟩
      rw [am] at al;obtain ⟨rfl,bB⟩:=al;refine rfa O F 5 rfl rfl S (ZT S rfl rfl ZI (Zk T).1 (ltI s (Zk T).2.2.1)) fun f S=>rfa O F 6 rfl rfl S (Zoa S rfl Z6 (Zpe S (j:=0) rfl am (ltN s (Zk T).2.2.2) 0 [.int .u64 (h)] rfl zl)) fun f S=>rfa O F 7 rfl rfl S (Zs S rfl) fun f S=>rfa O F 8 rfl rfl S (Zs S rfl) fun f S=>rfa O F 9 rfl rfl S (Zi S rfl rfl (ZVc a2)) fun f S=>rfa O F 10 rfl rfl S (Zi S rfl rfl (Zle a3)) fun f S=>rfa O F 11 rfl rfl S (Zi S rfl rfl Zte) fun f S=>?_;have an:=ZKa ab (Zk U).2.1;obtain ⟨bC,a4⟩ : ∃ c,(List.take (Ze .u64).n (List.drop ((d).toNat * (Ze .u64).n) e)) = c:=⟨_,rfl⟩;rw [a4] at an;obtain ⟨rfl,bD⟩:=an;refine rfa O F 12 rfl rfl S (ZT S rfl rfl ZI (Zk U).1 (ltI s (Zk U).2.2.1)) fun f S=>go1 O F 13 ?_;obtain ⟨w,a5,S⟩:=ZMb S Z6 (off:=0 + (d).toNat * 1) (z:=.int .u64 (orI .u64 h k)) (cs:=[.int .u64 (orI .u64 h k)]) (Zxb rfl) rfl (i:=0) rfl (ZKb S (j:=0) rfl (ltN s (Zk U).2.2.2)) (by first | rfl | simp [ZEa]);have ao : Rep.rels (Ze .u64) q (List.take (0 + (d).toNat * 1) e ++ [Value.int IntKind.u64 (orI .u64 h k)] ++ List.drop (0 + (d).toNat * 1 + 1) e) (p.set (d).toNat (orI .u64 h k)):=ZEb ab (Zk U).2.2.2 (show Rep.rel (Ze .u64) q [.int .u64 (orI .u64 h k)] _ from (Zv (ZPa _ _))) rfl rfl
      have af : m = (p.set (d).toNat (orI .u64 h k)).length:=Zwb s;refine nxs [0,1,2,3,4,5,6,7,8,9,10,11,12] [] O rfl rfl (a5 rfl rfl) (⟨Zr,Z1 O F (Zc (aZ _ _ ?_))⟩);obtain ⟨bE,a6,H⟩:=Zb H;obtain ⟨bF,a7,H⟩:=Zb H;obtain ⟨r,a8,H⟩:=Zb H;obtain ⟨bG,a9,H⟩:=Zb H;obtain ⟨bH,ba,H⟩:=Zb H;obtain ⟨u,ap,H⟩:=Zb H;obtain ⟨bI,V,H⟩:=Zb H;refine Zm (mv S rfl fun f S=>mv S rfl fun f S=>mv S rfl fun f S=>ov S rfl (Zi S rfl rfl (Zhc a6)) fun f S=>ov S rfl (Zi S rfl rfl (Zca a7)) fun f S=>ov S rfl (Zi S rfl rfl (Zca a8)) fun f S=>mv S rfl fun f S=>mv S rfl fun f S=>ov S rfl (Zi S rfl rfl (ZVc a9)) fun f S=>ov S rfl (Zi S rfl rfl (Zza ba)) fun f S=>ov S rfl (Zi S rfl rfl (Ztb ap)) fun f S=>?_);have aq:=ZKa ao (Zk V).2.1;obtain ⟨bJ,bb⟩ : ∃ c,(List.take (Ze .u64).n (List.drop ((r).toNat * (Ze .u64).n) (List.take (0 + (d).toNat * 1) e ++ [Value.int IntKind.u64 (orI .u64 h k)] ++ List.drop (0 + (d).toNat * 1 + 1) e))) = c:=⟨_,rfl⟩;rw [bb] at aq;obtain ⟨rfl,bK⟩:=aq;refine ov S rfl (ZT S rfl rfl ZI (Zk V).1 (ltI af (Zk V).2.2.1)) fun f S=>?_;obtain ⟨w,bc,S⟩:=ZMb S Z6 (off:=0 + (r).toNat * 1) (z:=.int .u64 (u)) (cs:=[.int .u64 (u)]) (Zxb rfl) rfl (i:=0) rfl (ZKb S (j:=0) rfl (ltN af (Zk V).2.2.2)) (by first | rfl | simp [ZEa])
      have bd : Rep.rels (Ze .u64) q (List.take (0 + (r).toNat * 1) ((List.take (0 + (d).toNat * 1) e ++ [Value.int IntKind.u64 (orI .u64 h k)] ++ List.drop (0 + (d).toNat * 1 + 1) e)) ++ [Value.int IntKind.u64 (u)] ++ List.drop (0 + (r).toNat * 1 + 1) ((List.take (0 + (d).toNat * 1) e ++ [Value.int IntKind.u64 (orI .u64 h k)] ++ List.drop (0 + (d).toNat * 1 + 1) e))) (((p.set (d).toNat (orI .u64 h k))).set (r).toNat u):=ZEb ao (Zk V).2.2.2 (show Rep.rel (Ze .u64) q [.int .u64 (u)] _ from (Zv (Zbe aY ap))) rfl rfl;have be : m = (((p.set (d).toNat (orI .u64 h k))).set (r).toNat u).length:=Zwb af;refine ZS wn rfl (bc rfl rfl) (Zl ?_);have S:=S.fr' (σ':=[(1,.int .i64 (n)),(5,.slice (mkA (some ak)) (m) G),(23,.slice (some ⟨aU,aV,none⟩) J L),(24,.int .i64 ((((Zj 18446744073709551616 a)).length : Int))),(25,.int .i64 (E))]) rfl;refine Zsa (Zc (aS _ _ ?_));obtain ⟨bL,ar,H⟩:=Zb H;refine Zm (ov S rfl (Zi S rfl rfl (Zca ar)) fun f S=>mv S rfl fun f S=>Zl ?_);obtain rfl:=Zg H;refine aP _ rfl _ _ ⟨_,_,some ak,m,G,(List.take (0 + (r).toNat * 1) ((List.take (0 + (d).toNat * 1) e ++ [Value.int IntKind.u64 (orI .u64 h k)] ++ List.drop (0 + (d).toNat * 1 + 1) e)) ++ [Value.int IntKind.u64 (u)] ++ List.drop (0 + (r).toNat * 1 + 1) ((List.take (0 + (d).toNat * 1) e ++ [Value.int IntKind.u64 (orI .u64 h k)] ++ List.drop (0 + (d).toNat * 1 + 1) e))),_,rfl,ad,(S.fr' rfl),bd,be,(Zma ar).2⟩
    have H:=Zy H R;refine ZF S rfl R (wp_exit (ZZ ?_));obtain rfl:=Zg H;have hq:=aQ _ rfl;subst hq;have H:=aN;refine ZZ (ZBa ?_);obtain rfl:=Zg H;refine Zc (aL _ _ ⟨_,aa,m,G,e,_,rfl,(leT (leR _) ad),(S.fr' rfl),ab,s⟩)
  rintro f w ⟨C,P,D,Q,ac,Z,hq,bM,S,bf,bg⟩;subst hq;have H:=aK;refine Zc (aH _ _ (Zh fun _ bh=>?_));obtain ⟨bN,bi,H⟩:=Zb H;refine Zm (mv S rfl fun f S=>?_);obtain ⟨bO,bP,S,bj⟩:=S.pubSlice (i:=0) (A:=(Ze .u64)) (l:=C) (ℓ':=[]) rfl rfl bg bf rfl;refine opc S rfl (Zo S [.slice (mkA P) (D) Q] ZCc rfl rfl) (ZAc S.vin (show Rep.rel (ZK (Ze .u64)) _ [.slice (mkA P) (D) Q] C from bj) bi) ?_;rintro _ bQ f w bR ⟨bS,rfl,au⟩ S;obtain ⟨bk,bm,bn,rfl⟩:=ZU au;refine mw S rfl fun f S=>Zl (Zc (bh _ _ (wp_ret ?_)));obtain rfl:=Zg H;refine ZC S (ZL rfl (ZD S rfl)) ⟨[.slice bk bm bn],rfl,au⟩
theorem ZLg {c : World} {b : Zd} (hv : VIn b c) {d : List Value} {a : Nat} (g : Rep.rel Zu b d a) {e : List Value} {n : Int} (h : Rep.rel (Ze .i64) b e n) {z : Nat} (hm : ZGb a n = some z) :
    Ret Try.prog 61 #[Zu.val d,(Ze .i64).val e] c b (fun y v'=>∃ f,y = Zu.val f ∧ Zu.rel v' f z) :=
  left_w hv g h (ZEm hm)
theorem right_w {C : World} {g : Zd} (hv : VIn g C) {c0 : List Value} {a : Nat} (h : Rep.rel Zu g c0 a) {c1 : List Value} {n : Int} (p1 : Rep.rel (Ze .i64) g c1 n) {z : Nat} (H : ZSf a n = some z) : Ret Try.prog 63 #[Zu.val c0,(Ze .i64).val c1] C g (fun y v'=>∃ r0,y = Zu.val r0 ∧ Zu.rel v' r0 z):=by
  obtain ⟨q1,P,Q,rfl⟩:=ZU h;obtain ⟨rfl,r4⟩:=p1;refine ZV (K:=65) (args:=[.slice q1 P Q,.int .i64 (n)]) hv Try.func63 rfl rfl zl fun f S=>?_;unfold ZSf at H;refine sr (mw S rfl fun f S=>oe (Zh fun _ ax=>Zh fun _ ay=>?_));obtain ⟨az,aA,H⟩:=Zb H;refine Zm (mv S rfl fun f S=>ov S rfl (Zi S rfl rfl (Zhc aA)) fun f S=>mv S rfl fun f S=>ov S rfl (ZR S (ZE h) rfl rfl ZI) fun f S=>ov S rfl (Zi S rfl rfl Zcb) fun f S=>Zl (Zc (ay _ _ ?_)));rcases Zx (decide ((((Zj 18446744073709551616 a)).length : Int) ≤ az)) with D | D
  · have H:=Zw H D;refine ZH S rfl D (sr (mw S rfl fun f S=>oe (wp_ret (ZM ?_))));obtain rfl:=Zg H;refine ZC S (ZL rfl (ZD S rfl)) ⟨[.slice none 0 0],rfl,(ZJd _)⟩
  have H:=Zy H D;refine ZF S rfl D (wp_skip (Zc (ax _ _ (Zh fun _ aB=>?_))));obtain ⟨bx,aC,H⟩:=Zb H;obtain ⟨k,aD,H⟩:=Zb H;obtain ⟨bz,R,H⟩:=Zb H;refine Zm (mv S rfl fun f S=>ov S rfl (ZR S (ZE h) rfl rfl ZI) fun f S=>mv S rfl fun f S=>ov S rfl (Zi S rfl rfl (Zhc aC)) fun f S=>ov S rfl (Zi S rfl rfl (Zza aD)) fun f S=>?_);obtain ⟨ai,aj⟩ : ∃ c : List Value,c = (List.replicate (k).toNat [.int .u64 ((0 : Int))]).flatten:=⟨_,rfl⟩;obtain ⟨aE,w,aF,S⟩:=Z3c ZRb S (l:=k) (c:=k) (Zna R).1 (Zna R).2.1 (Zna R).2.2.1 (Zna R).2.2.2 aj;have aG : Rep.rels (Ze .u64) g ai (List.replicate (k).toNat ((0 : Int))):=by rw [aj];exact Zsc (show Rep.rel (Ze .u64) _ [.int .u64 ((0 : Int))] _ from (Zv (by decide))) _
  refine ZWa wn rfl zl (aF rfl rfl) S fun f S=>mw S rfl fun f S=>Zl (Zc (aB _ _ (Zh fun _ aH=>sr (mv S rfl fun f S=>ov S rfl (ZR S (Zoc (x:=(0 : Int))) rfl rfl ZI) fun f S=>mv S rfl fun f S=>oe ?_))));obtain ⟨aI,aJ,aK⟩:=Zb H;refine ZP (fun f w=>∃ (t : (List Int)) (E : Option Nat) (u : Nat) (G : Nat) (ac : List Value) (T : Zd),t = aI ∧ Zd.le g T ∧ St 65 C g [(5,.slice (mkA E) (u) G)] [Loc.own E 86 1 (u) G ac] T f w ∧ Rep.rels (Ze .u64) T ac t ∧ u = t.length) (fun _ aL=>?_) ?_
  · have H:=aJ;refine wp_block ?_;obtain ⟨bA,aM,aN⟩:=Zb H;refine ZMa aM (fun aO f w=>∃ (p : (List Int)) (b : Int) (U : Option Nat) (m : Nat) (r : Nat) (d : List Value) (o : Zd),(p,b) = aO ∧ Zd.le g o ∧ St 65 C g [(0,.slice q1 P Q),(1,.int .i64 (n)),(5,.slice (mkA U) (m) r),(19,.int .i64 ((((List.replicate (k).toNat ((0 : Int)))).length : Int))),(20,.int .i64 (b))] [Loc.own U 86 1 (m) r d] o f w ∧ Rep.rels (Ze .u64) o d p ∧ m = p.length ∧ inR .i64 b) ⟨_,_,some aE,(k).toNat,(k).toNat,ai,_,rfl,(leR _),(S.fr' rfl),aG,(Zoc (x:=(0 : Int))),(by decide)⟩ ?_;rintro _ f w st ⟨p,b,U,m,r,d,o,hq,ad,S,ae,I,bB⟩ H bC aP aQ;subst hq;refine sr (ov S rfl (Zi S rfl rfl Zga) fun f S=>oe (Zh fun _ aR=>?_));rcases Zx (decide (b < (((List.replicate (k).toNat ((0 : Int)))).length : Int))) with J | J
    · have H:=Zw H J;refine ZH S rfl J (wp_skip (Zc (aR _ _ (Zh fun _ aS=>wp_block (sr (mv S rfl fun f S=>mw S rfl fun f S=>oe (Zh fun _ aT=>?_)))))));obtain ⟨bD,aU,H⟩:=Zb H;obtain ⟨bE,aV,H⟩:=Zb H;obtain ⟨bF,af,H⟩:=Zb H;obtain ⟨bG,aW,H⟩:=Zb H;obtain ⟨e,ak,H⟩:=Zb H;obtain ⟨bH,v,H⟩:=Zb H;refine Zm (mv S rfl fun f S=>mv S rfl fun f S=>mv S rfl fun f S=>mv S rfl fun f S=>mv S rfl fun f S=>ov S rfl (Zi S rfl rfl (Zhc aU)) fun f S=>ov S rfl (Zi S rfl rfl (Zca aV)) fun f S=>?_);have h:=Zp ad h;obtain ⟨_,al,am,bI,rfl,aX,aY⟩:=ZFa h (Zk af).2.1;obtain ⟨rfl,aZ⟩:=aY;refine ov S rfl (ZT S rfl rfl ZI (Zk af).1 (ltI (ZE h) (Zk af).2.2.1)) fun f S=>ov S rfl (Zoa S rfl Z6 (S.view aX)) fun f S=>mv S rfl fun f S=>ov S rfl (Zi S rfl rfl (ZVc aW)) fun f S=>ov S rfl (Zi S rfl rfl (Ztb ak)) fun f S=>?_;obtain ⟨ag,rfl⟩:=ZPb S (j:=0) rfl (Z5b I (Zk v).2.2.2);have an:=ZKa ae (Zk v).2.1;obtain ⟨bJ,a0⟩ : ∃ c,(List.take (Ze .u64).n (List.drop ((b).toNat * (Ze .u64).n) d)) = c:=⟨_,rfl⟩;rw [a0] at an;obtain ⟨rfl,bK⟩:=an;refine ov S rfl (ZT S rfl rfl ZI (Zk v).1 (ltI I (Zk v).2.2.1)) fun f S=>?_
      obtain ⟨w,a1,S⟩:=ZMb S Z6 (off:=0 + (b).toNat * 1) (z:=.int .u64 (e)) (cs:=[.int .u64 (e)]) (Zxb rfl) rfl (i:=0) rfl (ZKb S (j:=0) rfl (ltN I (Zk v).2.2.2)) (by first | rfl | simp [ZEa]);have V : Rep.rels (Ze .u64) o (List.take (0 + (b).toNat * 1) d ++ [Value.int IntKind.u64 (e)] ++ List.drop (0 + (b).toNat * 1 + 1) d) (p.set (b).toNat e):=ZEb ae (Zk v).2.2.2 (show Rep.rel (Ze .u64) o [.int .u64 (e)] _ from (Zv (Zbe aZ ak))) rfl rfl;have B : m = (p.set (b).toNat e).length:=Zwb I;refine ZS wn rfl (a1 rfl rfl) (Zl (Zc (aT _ _ (Zh fun _ a2=>?_))));obtain ⟨bL,a3,H⟩:=Zb H;obtain ⟨bM,a4,H⟩:=Zb H;obtain ⟨ao,a5,H⟩:=Zb H;refine Zm (mv S rfl fun f S=>mv S rfl fun f S=>ov S rfl (Zi S rfl rfl (Zhc a3)) fun f S=>ov S rfl (Zi S rfl rfl (Zca a4)) fun f S=>ov S rfl (Zi S rfl rfl (Zca a5)) fun f S=>mv S rfl fun f S=>ov S rfl (ZR S (ZE h) rfl rfl ZI) fun f S=>ov S rfl (Zi S rfl rfl Zga) fun f S=>Zl ?_);have S:=S.fr' (σ':=[(0,.slice (some ⟨al,am,none⟩) P Q),(1,.int .i64 (n)),(5,.slice (mkA (some ag)) (m) r),(6,.int .i64 (b)),(19,.int .i64 ((((List.replicate (k).toNat ((0 : Int)))).length : Int))),(20,.int .i64 (b)),(43,.bool (decide (ao < (((Zj 18446744073709551616 a)).length : Int))))]) rfl
      refine Zc (a2 _ _ ?_);obtain ⟨a6,a7,a8⟩:=Zb H;refine ZP (fun f w=>∃ (W : (List Int)) (X : Option Nat) (L : Nat) (Y : Nat) (Z : List Value) (aa : Zd),W = a6 ∧ Zd.le o aa ∧ St 65 C g [(0,.slice (some ⟨al,am,none⟩) P Q),(1,.int .i64 (n)),(5,.slice (mkA X) (L) Y),(19,.int .i64 ((((List.replicate (k).toNat ((0 : Int)))).length : Int))),(20,.int .i64 (b))] [Loc.own X 86 1 (L) Y Z] aa f w ∧ Rep.rels (Ze .u64) aa Z W ∧ L = W.length) (fun _ ap=>?_) ?_
      · have H:=a7;rcases Zx (decide (ao < (((Zj 18446744073709551616 a)).length : Int))) with M | M
        · have H:=Zw H M;refine ZH S rfl M ?_;obtain ⟨q,ab,H⟩:=Zb H;obtain ⟨bN,a9,H⟩:=Zb H;obtain ⟨bO,ba,H⟩:=Zb H;obtain ⟨bP,bb,H⟩:=Zb H;obtain ⟨bQ,ah,H⟩:=Zb H;obtain ⟨bR,bc,H⟩:=Zb H;obtain ⟨bS,bd,H⟩:=Zb H;obtain ⟨s,be,H⟩:=Zb H;obtain ⟨bT,N,H⟩:=Zb H;refine Zia (fl:=#[true,true,true,true,true,true,true,true,true,true,true,true,true,true,true,true,true,true,false]) Zja (by kernel_rfl) S ?_;intro ops O F w S;refine rfa O F 0 rfl rfl S (Zs S rfl) fun f S=>rfa O F 1 rfl rfl S (Zs S rfl) fun f S=>?_;have aq:=ZKa V (Zk ab).2.1;obtain ⟨bU,ar⟩ : ∃ c,(List.take (Ze .u64).n (List.drop ((b).toNat * (Ze .u64).n) (List.take (0 + (b).toNat * 1) d ++ [Value.int IntKind.u64 (e)] ++ List.drop (0 + (b).toNat * 1 + 1) d))) = c:=⟨_,rfl⟩;rw [ar] at aq;obtain ⟨rfl,bV⟩:=aq;refine rfa O F 2 rfl rfl S (ZT S rfl rfl ZI (Zk ab).1 (ltI B (Zk ab).2.2.1)) fun f S=>rfa O F 3 rfl rfl S (Zoa S rfl Z6 (Zpe S (j:=0) rfl ar (ltN B (Zk ab).2.2.2) 0 [.int .u64 (q)] rfl zl)) fun f S=>rfa O F 4 rfl rfl S (Zs S rfl) fun f S=>rfa O F 5 rfl rfl S (Zs S rfl) fun f S=>rfa O F 6 rfl rfl S (Zs S rfl) fun f S=>rfa O F 7 rfl rfl S (Zi S rfl rfl (Zhc a9)) fun f S=>rfa O F 8 rfl rfl S (Zi S rfl rfl (Zca ba)) fun f S=>rfa O F 9 rfl rfl S (Zi S rfl rfl (Zca bb)) fun f S=>?_
          obtain ⟨bW,bf,bg⟩:=Zmb h (Zk ah).2.1;obtain ⟨rfl,bX⟩:=bg;refine rfa O F 10 rfl rfl S (ZT S rfl rfl ZI (Zk ah).1 (ltI (ZE h) (Zk ah).2.2.1)) fun f S=>rfa O F 11 rfl rfl S (Zoa S rfl Z6 (S.view bf)) fun f S=>rfa O F 12 rfl rfl S (Zs S rfl) fun f S=>rfa O F 13 rfl rfl S (Zi S rfl rfl (ZVc bc)) fun f S=>rfa O F 14 rfl rfl S (Zi S rfl rfl (Zza bd)) fun f S=>rfa O F 15 rfl rfl S (Zi S rfl rfl (Zle be)) fun f S=>rfa O F 16 rfl rfl S (Zi S rfl rfl Zte) fun f S=>?_;have au:=ZKa V (Zk N).2.1;obtain ⟨bY,bh⟩ : ∃ c,(List.take (Ze .u64).n (List.drop ((b).toNat * (Ze .u64).n) (List.take (0 + (b).toNat * 1) d ++ [Value.int IntKind.u64 (e)] ++ List.drop (0 + (b).toNat * 1 + 1) d))) = c:=⟨_,rfl⟩;rw [bh] at au;obtain ⟨rfl,bZ⟩:=au;refine rfa O F 17 rfl rfl S (ZT S rfl rfl ZI (Zk N).1 (ltI B (Zk N).2.2.1)) fun f S=>go1 O F 18 ?_;obtain ⟨w,bi,S⟩:=ZMb S Z6 (off:=0 + (b).toNat * 1) (z:=.int .u64 (orI .u64 q s)) (cs:=[.int .u64 (orI .u64 q s)]) (Zxb rfl) rfl (i:=0) rfl (ZKb S (j:=0) rfl (ltN B (Zk N).2.2.2)) (by first | rfl | simp [ZEa]);have bj : Rep.rels (Ze .u64) o (List.take (0 + (b).toNat * 1) ((List.take (0 + (b).toNat * 1) d ++ [Value.int IntKind.u64 (e)] ++ List.drop (0 + (b).toNat * 1 + 1) d)) ++ [Value.int IntKind.u64 (orI .u64 q s)] ++ List.drop (0 + (b).toNat * 1 + 1) ((List.take (0 + (b).toNat * 1) d ++ [Value.int IntKind.u64 (e)] ++ List.drop (0 + (b).toNat * 1 + 1) d))) (((p.set (b).toNat e)).set (b).toNat (orI .u64 q s)):=ZEb V (Zk N).2.2.2 (show Rep.rel (Ze .u64) o [.int .u64 (orI .u64 q s)] _ from (Zv (ZPa _ _))) rfl rfl
          have bk : m = (((p.set (b).toNat e)).set (b).toNat (orI .u64 q s)).length:=Zwb B;refine nxs [0,1,2,3,4,5,6,7,8,9,10,11,12,13,14,15,16,17] [] O rfl rfl (bi rfl rfl) (⟨Zr,Z1 O F ?_⟩);obtain rfl:=Zg H;refine Zc (ap _ _ ⟨_,some ag,m,r,(List.take (0 + (b).toNat * 1) ((List.take (0 + (b).toNat * 1) d ++ [Value.int IntKind.u64 (e)] ++ List.drop (0 + (b).toNat * 1 + 1) d)) ++ [Value.int IntKind.u64 (orI .u64 q s)] ++ List.drop (0 + (b).toNat * 1 + 1) ((List.take (0 + (b).toNat * 1) d ++ [Value.int IntKind.u64 (e)] ++ List.drop (0 + (b).toNat * 1 + 1) d))),_,rfl,(leR _),(S.fr' rfl),bj,bk⟩)
        have H:=Zy H M;refine ZF S rfl M (wp_skip ?_);obtain rfl:=Zg H;refine Zc (ap _ _ ⟨_,some ag,m,r,(List.take (0 + (b).toNat * 1) d ++ [Value.int IntKind.u64 (e)] ++ List.drop (0 + (b).toNat * 1 + 1) d),_,rfl,(leR _),(S.fr' rfl),V,B⟩)
      rintro f w ⟨W,X,L,Y,Z,aa,hq,bm,S,bn,bo⟩;subst hq;have H:=a8;refine Zsa (Zc (aS _ _ ?_));obtain ⟨b0,av,H⟩:=Zb H;refine Zm (ov S rfl (Zi S rfl rfl (Zca av)) fun f S=>mv S rfl fun f S=>Zl ?_);obtain rfl:=Zg H;refine aP _ rfl _ _ ⟨_,_,X,L,Y,Z,_,rfl,(leT ad bm),(S.fr' rfl),bn,bo,(Zma av).2⟩
    have H:=Zy H J;refine ZF S rfl J (wp_exit (ZZ ?_));obtain rfl:=Zg H;have hq:=aQ _ rfl;subst hq;have H:=aN;refine ZZ (ZBa ?_);obtain rfl:=Zg H;refine Zc (aL _ _ ⟨_,U,m,r,d,_,rfl,(leT (leR _) ad),(S.fr' rfl),ae,I⟩)
  rintro f w ⟨t,E,u,G,ac,T,hq,b1,S,bp,bq⟩;subst hq;have H:=aK;refine Zc (aH _ _ (Zh fun _ br=>?_));obtain ⟨b2,bs,H⟩:=Zb H;refine Zm (mv S rfl fun f S=>?_);obtain ⟨b3,b4,S,bt⟩:=S.pubSlice (i:=0) (A:=(Ze .u64)) (l:=t) (ℓ':=[]) rfl rfl bq bp rfl;refine opc S rfl (Zo S [.slice (mkA E) (u) G] ZCc rfl rfl) (ZAc S.vin (show Rep.rel (ZK (Ze .u64)) _ [.slice (mkA E) (u) G] t from bt) bs) ?_;rintro _ b5 f w b6 ⟨b7,rfl,aw⟩ S;obtain ⟨bu,bv,bw,rfl⟩:=ZU aw;refine mw S rfl fun f S=>Zl (Zc (br _ _ (wp_ret ?_)));obtain rfl:=Zg H;refine ZC S (ZL rfl (ZD S rfl)) ⟨[.slice bu bv bw],rfl,aw⟩
theorem right_c {c : World} {b : Zd} (hv : VIn b c) {d : List Value} {a : Nat} (h : Rep.rel Zu b d a) {e : List Value} {n : Int} (f : Rep.rel (Ze .i64) b e n) {z : Nat} (hm : Z9d a n = some z) :
    Ret Try.prog 63 #[Zu.val d,(Ze .i64).val e] c b (fun y v'=>∃ g,y = Zu.val g ∧ Zu.rel v' g z) :=
  right_w hv h f (Zgm f.2 hm)
theorem Zol {w0 : World} {F : Zd} (hv : VIn F w0) {c0 : List Value} {a : Nat} (m : Rep.rel Zu F c0 a) {c1 : List Value} {b : Nat} (g : Rep.rel Zu F c1 b) {z : Nat × Nat} (H : Z0e a b = some z) : Ret Try.prog 42 #[Zu.val c0,Zu.val c1] w0 F (fun y v'=>∃ r0 r1,y = .tuple #[Zu.val r0,Zu.val r1] ∧ Zu.rel v' r0 z.1 ∧ Zu.rel v' r1 z.2):=by
  obtain ⟨R,T,U,rfl⟩:=ZU m;obtain ⟨q4,n5,k6,rfl⟩:=ZU g;refine ZV (K:=84) (args:=[.slice R T U,.slice q4 n5 k6]) hv Try.func42 rfl rfl zl fun f S=>?_;unfold Z0e at H;refine sr (mw S rfl fun f S=>mw S rfl fun f S=>oe (Zh fun _ bb=>wp_block (Zh fun _ bc=>?_)));obtain ⟨bd,be,H⟩:=Zb H;refine Zm (mv S rfl fun f S=>mv S rfl fun f S=>opc S rfl (Zo S [.slice R T U,.slice q4 n5 k6] Zge rfl rfl) (Zde S.vin m g be) ?_);rintro _ cT f w aj ⟨cU,rfl,bf⟩ S;obtain ⟨rfl,cV⟩:=bf;refine ov S rfl (Zi S rfl rfl Zga) fun f S=>mw S rfl fun f S=>Zl (Zc (bc _ _ ?_));rcases Zx (decide (bd < (0 : Int))) with V | V
  · have H:=Zw H V;refine ZH S rfl V (sr (mv S rfl fun f S=>mw S rfl fun f S=>mw S rfl fun f S=>oe (wp_ret (ZDa (ZM ?_)))));obtain rfl:=Zg H;have m:=Zp aj m;refine ZC S (Zqa rfl (ZD S rfl) (ZD S rfl)) ⟨[.slice none 0 0],[.slice R T U],rfl,(ZJd _),m⟩
  have H:=Zy H V;refine ZF S rfl V (sr (mv S rfl fun f S=>?_));have g:=Zp aj g;refine ov S rfl (ZR S (ZE g) rfl rfl ZI) fun f S=>ov S rfl (Zi S rfl rfl Zpa) fun f S=>mw S rfl fun f S=>oe ?_;rcases Zx (((((Zj 18446744073709551616 b)).length : Int)) == ((1 : Int))) with W | W
  · have H:=Zw H W;refine ZH S rfl W (Zh fun _ bg=>?_);obtain ⟨au,av,H⟩:=Zb H;obtain ⟨aw,bh,H⟩:=Zb H;refine Zm (mv S rfl fun f S=>mv S rfl fun f S=>?_);obtain ⟨_,cW,cX,cY,rfl,ax,bi⟩:=ZFa g (Zk av).2.1;obtain ⟨rfl,bj⟩:=bi;refine ov S rfl (ZT S rfl rfl ZI (Zk av).1 (ltI (ZE g) (Zk av).2.2.1)) fun f S=>ov S rfl (Zoa S rfl Z6 (S.view ax)) fun f S=>?_;have m:=Zp aj m;refine opc S rfl (Zo S [.slice R T U,.int .u64 (au)] ZZi rfl rfl) (Ztj S.vin m (show Rep.rel (Ze .u64) _ [.int .u64 (au)] au from (Zv bj)) bh) ?_;rintro _ cZ f w bk ⟨c2,c3,rfl,ak,bm⟩ S;have ax:=Atm bk ax;obtain ⟨aS,aT,aU,rfl⟩:=ZU ak;obtain ⟨rfl,bn⟩:=bm;refine mv S rfl fun f S=>ov S rfl (ZA S rfl rfl) fun f S=>ov S rfl (ZA S rfl rfl) fun f S=>mw S rfl fun f S=>mw S rfl fun f S=>Zl (Zc (bg _ _ (Zh fun _ bo=>?_)));obtain ⟨c4,bp,H⟩:=Zb H;refine Zm (mv S rfl fun f S=>mv S rfl fun f S=>opc S rfl (Zo S [.int .u64 (aw.2)] ZVd rfl rfl) (Zqe S.vin (show Rep.rel (Ze .u64) _ [.int .u64 (aw.2)] aw.2 from (Zv bn)) bp) ?_);rintro _ c5 f w bq ⟨c6,rfl,aV⟩ S;obtain ⟨aW,aX,aY,rfl⟩:=ZU aV;refine mw S rfl fun f S=>mw S rfl fun f S=>Zl ?_;have S:=S.fr' (σ':=[(4,.slice aS aT aU),(5,.slice aW aX aY)]) rfl
    refine Zc (bo _ _ (wp_ret (ZDa (ZM ?_))));obtain rfl:=Zg H;have ak:=Zp bq ak;refine ZC S (Zqa rfl (ZD S rfl) (ZD S rfl)) ⟨[.slice aS aT aU],[.slice aW aX aY],rfl,ak,aV⟩
  have H:=Zy H W;refine ZF S rfl W (wp_skip (Zsa (Zc (bb _ _ (Zh fun _ br=>?_)))));obtain ⟨c7,bs,H⟩:=Zb H;obtain ⟨ay,az,H⟩:=Zb H;obtain ⟨k,bt,H⟩:=Zb H;refine Zm (mv S rfl fun f S=>mv S rfl fun f S=>ov S rfl (ZR S (ZE g) rfl rfl ZI) fun f S=>ov S rfl (Zi S rfl rfl (Zza bs)) fun f S=>?_);obtain ⟨_,bu,bv,c8,rfl,aA,bw⟩:=ZFa g (Zk az).2.1;obtain ⟨rfl,bx⟩:=bw;refine ov S rfl (ZT S rfl rfl ZI (Zk az).1 (ltI (ZE g) (Zk az).2.2.1)) fun f S=>ov S rfl (Zoa S rfl Z6 (S.view aA)) fun f S=>opc S rfl (Zo S [.int .u64 (ay)] Zgk rfl rfl) (Z4i S.vin (show Rep.rel (Ze .u64) _ [.int .u64 (ay)] ay from (Zv bx)) bt) ?_;rintro _ c9 f w aB ⟨da,rfl,bz⟩ S;have aA:=Atm aB aA;obtain ⟨rfl,aC⟩:=bz;refine mw S rfl fun f S=>Zl (Zc (br _ _ (Zh fun _ bA=>?_)));obtain ⟨bB,bC,H⟩:=Zb H;refine Zm (mv S rfl fun f S=>mv S rfl fun f S=>?_);have g:=Zp aB g;refine opc S rfl (Zo S [.slice (some ⟨bu,bv,none⟩) n5 k6,.int .i64 (k)] Z0g rfl rfl) (ZLg S.vin g (show Rep.rel (Ze .i64) _ [.int .i64 (k)] k from (Zv aC)) bC) ?_;rintro _ bD f w bE ⟨db,rfl,v⟩ S;obtain ⟨aD,aE,aF,rfl⟩:=ZU v;refine mw S rfl fun f S=>Zl (Zc (bA _ _ (Zh fun _ bF=>?_)))
  obtain ⟨X,bG,H⟩:=Zb H;obtain ⟨dc,bH,H⟩:=Zb H;obtain ⟨dd,bI,H⟩:=Zb H;refine Zm ?_;obtain ⟨de,w,bJ,S⟩:=Zhd (P:=Try.prog) (t:=33) (e:=86) S (n:=0) (cs:=[]) (vals:=[]) (sz:=1) rfl (by decide) (fun _=>by kernel_rfl);have aG : Rep.rels (Ze .u64) bD [] []:=Zyb;refine ZWa wn rfl zl (bJ rfl) S fun f S=>mv S rfl fun f S=>mv S rfl fun f S=>?_;have m:=Zp (leT (leT aj aB) bE) m;refine opc S rfl (Zo S [.slice R T U,.int .i64 (k)] Z0g rfl rfl) (ZLg S.vin m (show Rep.rel (Ze .i64) _ [.int .i64 (k)] k from (Zv aC)) bG) ?_;rintro _ al f w aZ ⟨df,rfl,aH⟩ S;have aG:=Zaa aZ aG;obtain ⟨dg,dh,di,rfl⟩:=ZU aH;have aI:=S;obtain ⟨dj,dk,a0,w,bK,S,bL⟩:=ZRk (ty:=33) (A:=(Ze .u64)) ZRb S (i:=0) (n':=(([] : (List Int)) ++ ((Zj 18446744073709551616 X))).length) rfl aH (appN rfl (ZE aH)) (Zdf bH) (by decide);have bM:=Zmc aG bL;refine ZWa wn rfl zl (ZGf aI rfl rfl bK) S fun f S=>?_;obtain ⟨dl,w,bN,S⟩:=Zhd S (n:=1) (cs:=[.int .u64 ((0 : Int))]) (vals:=[(0,.int .u64 ((0 : Int)))]) (sz:=1) rfl (by decide) (Z0d ZRb (x:=.int .u64 ((0 : Int))) (cs:=[.int .u64 ((0 : Int))]) rfl rfl (by decide));have aJ : Rep.rels (Ze .u64) al [.int .u64 ((0 : Int))] [(0 : Int)]:=(Zyc (Zv (by decide)) Zyb)
  refine ZWa wn rfl zl (bN rfl) S fun f S=>?_;have aI:=S;obtain ⟨aK,aL,w,bO,S⟩:=ZTd (ty:=33) ZRb S (i:=1) (n':=((([] : (List Int)) ++ ((Zj 18446744073709551616 X))) ++ [(0 : Int)]).length) rfl (Zrc aJ rfl) (ZWe S (j:=0) rfl) (Zwe aJ) (appN rfl rfl) (Zdf bI) (by decide);have bP:=Zmc bM aJ;refine ZWa wn rfl zl (ZGf aI rfl rfl bO) S fun f S=>mw S rfl fun f S=>Zl ?_;have S:=S.fr' (σ':=[(8,.int .i64 (k)),(9,.slice aD aE aF),(10,.slice (mkA aK) (((([] : (List Int)) ++ ((Zj 18446744073709551616 X))) ++ [(0 : Int)]).length) aL)]) rfl;refine Zc (bF _ _ (sr (mv S rfl fun f S=>?_)));have v:=Zp aZ v;refine ov S rfl (ZR S (ZE v) rfl rfl ZI) fun f S=>mw S rfl fun f S=>oe (Zh fun _ bQ=>?_);obtain ⟨q,bR,H⟩:=Zb H;obtain ⟨dm,am,H⟩:=Zb H;refine Zm (mv S rfl fun f S=>ov S rfl (ZR S rfl rfl rfl ZI) fun f S=>mv S rfl fun f S=>ov S rfl (Zi S rfl rfl (Zza bR)) fun f S=>?_);obtain ⟨aM,a1⟩ : ∃ c : List Value,c = (List.replicate (q).toNat [.int .u64 ((0 : Int))]).flatten:=⟨_,rfl⟩;obtain ⟨a2,w,bS,S⟩:=Z3c ZRb S (l:=q) (c:=q) (Zna am).1 (Zna am).2.1 (Zna am).2.2.1 (Zna am).2.2.2 a1;have bT : Rep.rels (Ze .u64) al aM (List.replicate (q).toNat ((0 : Int))):=by rw [a1];exact Zsc (show Rep.rel (Ze .u64) _ [.int .u64 ((0 : Int))] _ from (Zv (by decide))) _
  refine ZWa wn rfl zl (bS rfl rfl) S fun f S=>mw S rfl fun f S=>Zl (Zc (bQ _ _ (Zh fun _ bU=>Zh fun _ bV=>?_)));obtain ⟨dn,a3,H⟩:=Zb H;refine Zm (mv S rfl fun f S=>ov S rfl (ZR S (Zoc (x:=(0 : Int))) rfl rfl ZI) fun f S=>ov S rfl (Zi S rfl rfl (Zza a3)) fun f S=>mw S rfl fun f S=>Zl (Zc (bV _ _ ?_)));obtain ⟨bW,bX,bY⟩:=Zb H;refine ZP (fun f w=>∃ (G : (List Int)) (I : (List Int)) (J : Option Nat) (B : Nat) (L : Nat) (an : List Value) (Y : Option Nat) (M : Nat) (Z : Nat) (aN : List Value) (aa : Zd),(G,I) = bW ∧ Zd.le al aa ∧ St 84 w0 F [(8,.int .i64 (k)),(10,.slice (mkA J) (B) L),(12,.slice (mkA Y) (M) Z)] [Loc.own J 86 1 (B) L an,Loc.own Y 86 1 (M) Z aN] aa f w ∧ Rep.rels (Ze .u64) aa an G ∧ B = G.length ∧ Rep.rels (Ze .u64) aa aN I ∧ M = I.length) (fun _ bZ=>?_) ?_
  · have H:=bX;refine wp_block ?_;obtain ⟨dp,b0,b1⟩:=Zb H;have S:=S.reorder (ℓ':=[Loc.own aK 86 1 (((([] : (List Int)) ++ ((Zj 18446744073709551616 X))) ++ [(0 : Int)]).length) aL ((([] ++ a0) ++ [.int .u64 ((0 : Int))])),Loc.own (some a2) 86 1 ((q).toNat) (q).toNat aM]) [2,0] rfl (by decide);refine ZMa b0 (fun b2 f w=>∃ (ao : (List Int)) (N : (List Int)) (d : Int) (ap : Option Nat) (C : Nat) (D : Nat) (s : List Value) (aq : Option Nat) (E : Nat) (ab : Nat) (o : List Value) (ac : Zd),(ao,N,d) = b2 ∧ Zd.le al ac ∧ St 84 w0 F [(8,.int .i64 (k)),(9,.slice aD aE aF),(10,.slice (mkA ap) (C) D),(11,.int .i64 ((((Zj 18446744073709551616 bB)).length : Int))),(12,.slice (mkA aq) (E) ab),(13,.int .i64 (d))] [Loc.own ap 86 1 (C) D s,Loc.own aq 86 1 (E) ab o] ac f w ∧ Rep.rels (Ze .u64) ac s ao ∧ C = ao.length ∧ Rep.rels (Ze .u64) ac o N ∧ E = N.length ∧ inR .i64 d) ⟨_,_,_,aK,((([] : (List Int)) ++ ((Zj 18446744073709551616 X))) ++ [(0 : Int)]).length,aL,(([] ++ a0) ++ [.int .u64 ((0 : Int))]),some a2,(q).toNat,(q).toNat,aM,_,rfl,(leR _),(S.fr' rfl),bP,rfl,bT,(Zoc (x:=(0 : Int))),(Zma a3).2⟩ ?_;rintro _ f w st ⟨ao,N,d,ap,C,D,s,aq,E,ab,o,ac,hq,aO,S,ad,ae,af,ag,dq⟩ H dr b3 b4
    subst hq;refine Zh fun _ b5=>sr (mv S rfl fun f S=>ov S rfl (Zi S rfl rfl Zcb) fun f S=>oe ?_);rcases Zx (decide ((0 : Int) ≤ d)) with ah | ah
    · have H:=Zw H ah;refine ZH S rfl ah (wp_skip (Zc (b5 _ _ (Zh fun _ b6=>wp_block ?_))));obtain ⟨ds,b7,H⟩:=Zb H;obtain ⟨O,b8,H⟩:=Zb H;obtain ⟨dt,h,H⟩:=Zb H;obtain ⟨u,b9,H⟩:=Zb H;obtain ⟨du,Q,H⟩:=Zb H;refine Zm (mv S rfl fun f S=>mv S rfl fun f S=>mv S rfl fun f S=>mv S rfl fun f S=>mv S rfl fun f S=>mv S rfl fun f S=>ov S rfl (Zi S rfl rfl (Zca b7)) fun f S=>ov S rfl (Zi S rfl rfl (Zca b8)) fun f S=>?_);obtain ⟨aP,rfl⟩:=ZPb S (j:=0) rfl (by have:=Z3b h;have:=ae;omega);refine ov S rfl (Zmm S (j:=0) rfl ZI (Z3b h).1 (Z3b h).2.1 (by have:=(Z3b h).2.2.1;have:=ae;omega) rfl rfl rfl) fun f S=>mv S rfl fun f S=>?_;obtain ⟨pre399,post400,ca,cb,cc,cd,ce,cf⟩:=ZMl S (i:=0) (lo:=(d).toNat) (hi:=(O).toNat) rfl (Z3b h).2.2.2.2.2.1 (by have:=(Z3b h).2.2.2.2.2.2;have:=ae;omega);have v:=Zp aO v;refine Zqi S wn rfl zl (Zo S [.slice (some ⟨aP,(d).toNat * 1,none⟩) ((O - d).toNat) (D - (d).toNat),.slice aD aE aF] k_en62 rfl rfl) (i:=0) rfl rfl (digit_c S.vin ca cc cb (Z3b h).2.2.2.2.1 ⟨ZFm (Z3b h).1 (Z3b h).2.1 cd,ce⟩ (ZCk ad rfl (Z3b h).2.2.2.1) v b9) ?_;rintro _ a4 f w aQ ⟨⟨dv,rfl,cg⟩,ch,aR,ci,cj,a5⟩ hSf
      have ad:=Zaa aQ ad;have af:=Zaa aQ af;have a6 : ((O).toNat - (d).toNat) = u.2.length:=by have:=cj;have:=Z3b h;omega
      have S:=hSf (Loc.own (some aP) 86 1 (C) D (List.take ((d).toNat * 1) s ++ aR ++ List.drop ((O).toNat * 1) s)) rfl (cf _ aR (Zrc a5 a6) ci) ch;have ck:=ZZl (p:=(d).toNat) (r:=(O).toNat) (sz:=1) ad a5 rfl;have cl:=ZOm ae (Z3b h).2.2.2.2.2.1 (Z3b h).2.2.2.2.2.2 a6;obtain ⟨rfl,cm⟩:=cg;obtain ⟨cn,rfl⟩:=ZPb S (j:=1) rfl (Z5b ag (Zk Q).2.2.2);have a7:=ZKa af (Zk Q).2.1;obtain ⟨dw,co⟩ : ∃ c,(List.take (Ze .u64).n (List.drop ((d).toNat * (Ze .u64).n) o)) = c:=⟨_,rfl⟩;rw [co] at a7;obtain ⟨rfl,dx⟩:=a7;refine ov S rfl (ZT S rfl rfl ZI (Zk Q).1 (ltI ag (Zk Q).2.2.1)) fun f S=>?_;obtain ⟨w,cp,S⟩:=ZMb S Z6 (off:=0 + (d).toNat * 1) (z:=.int .u64 (u.1)) (cs:=[.int .u64 (u.1)]) (Zxb rfl) rfl (i:=1) rfl (ZKb S (j:=1) rfl (ltN ag (Zk Q).2.2.2)) (by first | rfl | simp [ZEa]);have cq : Rep.rels (Ze .u64) a4 (List.take (0 + (d).toNat * 1) o ++ [Value.int IntKind.u64 (u.1)] ++ List.drop (0 + (d).toNat * 1 + 1) o) (N.set (d).toNat u.1):=ZEb af (Zk Q).2.2.2 (show Rep.rel (Ze .u64) a4 [.int .u64 (u.1)] _ from (Zv cm)) rfl rfl;have cr : E = (N.set (d).toNat u.1).length:=Zwb ag;refine ZS wn rfl (cp rfl rfl) (Zl (Zsa (Zc (b6 _ _ ?_))))
      obtain ⟨dy,a8,H⟩:=Zb H;refine Zm (mv S rfl fun f S=>ov S rfl (Zi S rfl rfl (Zza a8)) fun f S=>mw S rfl fun f S=>Zl ?_);obtain rfl:=Zg H;refine b3 _ rfl _ _ ⟨_,_,_,some aP,C,D,(List.take ((d).toNat * 1) s ++ aR ++ List.drop ((O).toNat * 1) s),some cn,E,ab,(List.take (0 + (d).toNat * 1) o ++ [Value.int IntKind.u64 (u.1)] ++ List.drop (0 + (d).toNat * 1 + 1) o),_,rfl,(leT aO aQ),(S.fr' rfl),ck,cl,cq,cr,(Zma a8).2⟩
    have H:=Zy H ah;refine ZF S rfl ah (wp_exit (ZZ ?_));obtain rfl:=Zg H;have hq:=b4 _ rfl;subst hq;have H:=b1;refine ZZ (ZBa ?_);obtain rfl:=Zg H;refine Zc (bZ _ _ ⟨_,_,ap,C,D,s,aq,E,ab,o,_,rfl,(leT (leR _) aO),(S.fr' rfl),ad,ae,af,ag⟩)
  rintro f w ⟨G,I,J,B,L,an,Y,M,Z,aN,aa,hq,dz,S,ai,ct,cu,cv⟩;subst hq;have H:=bY;refine Zc (bU _ _ (Zh fun _ cw=>?_));obtain ⟨dA,cx,H⟩:=Zb H;obtain ⟨dB,cy,H⟩:=Zb H;obtain ⟨dC,cz,H⟩:=Zb H;refine Zm (mv S rfl fun f S=>?_);obtain ⟨dD,cA,S,cB⟩:=S.pubSlice (i:=1) (A:=(Ze .u64)) (l:=I) (ℓ':=[Loc.own J 86 1 (B) L an]) rfl rfl cv cu rfl;have ai:=Zaa cA ai;refine opc S rfl (Zo S [.slice (mkA Y) (M) Z] ZCc rfl rfl) (ZAc S.vin (show Rep.rel (ZK (Ze .u64)) _ [.slice (mkA Y) (M) Z] I from cB) cx) ?_;rintro _ dE f w cD ⟨dF,rfl,ar⟩ S;have ai:=Zaa cD ai;obtain ⟨cE,cF,cG,rfl⟩:=ZU ar;refine mv S rfl fun f S=>?_;obtain ⟨dG,cH,S,cI⟩:=S.pubSlice (i:=0) (A:=(Ze .u64)) (l:=G) (ℓ':=[]) rfl rfl ct ai rfl;refine opc S rfl (Zo S [.slice (mkA J) (B) L] ZCc rfl rfl) (ZAc S.vin (show Rep.rel (ZK (Ze .u64)) _ [.slice (mkA J) (B) L] G from cI) cy) ?_;rintro _ dH f w cJ ⟨dI,rfl,a9⟩ S;obtain ⟨cK,cL,cM,rfl⟩:=ZU a9;refine mv S rfl fun f S=>opc S rfl (Zo S [.slice cK cL cM,.int .i64 (k)] k_en63 rfl rfl) (right_c S.vin a9 (show Rep.rel (Ze .i64) _ [.int .i64 (k)] k from (Zv aC)) cz) ?_;rintro _ dJ f w cN ⟨dK,rfl,ba⟩ S
  obtain ⟨cO,cR,cS,rfl⟩:=ZU ba;refine mw S rfl fun f S=>mw S rfl fun f S=>Zl (Zc (cw _ _ (wp_ret ?_)));obtain rfl:=Zg H;have ar:=Zp (leT (leT cH cJ) cN) ar;refine ZC S (Zqa rfl (ZD S rfl) (ZD S rfl)) ⟨[.slice cE cF cG],[.slice cO cR cS],rfl,ar,ba⟩
theorem Zmh {d : World} {c : Zd} (hv : VIn c d) {e : List Value} {a : Nat} (i : Rep.rel Zu c e a) {f : List Value} {b : Nat} (j : Rep.rel Zu c f b) {z : Nat × Nat} (hm : Z4c a b = some z) :
    Ret Try.prog 42 #[Zu.val e,Zu.val f] d c (fun y v'=>∃ g h,y = Value.tuple #[Zu.val g,Zu.val h] ∧ Zu.rel v' g z.1 ∧ Zu.rel v' h z.2) :=
  Zol hv i j (ZIl hm)
theorem small_w {d : World} {c : Zd} (hv : VIn c d) {t : List Value} {a : Nat} (l : Rep.rel Zu c t a) {u : List Value} {b : Nat} (e : Rep.rel Zu c u b) {z : Int} (H : ZNe a b = some z) : Ret Try.prog 59 #[Zu.val t,Zu.val u] d c (fun y v'=>∃ v,y = (Ze .u64).val v ∧ (Ze .u64).rel v' v z):=by
  obtain ⟨G,I,J,rfl⟩:=ZU l;obtain ⟨x,A,B,rfl⟩:=ZU e;refine ZV (K:=23) (args:=[.slice G I J,.slice x A B]) hv Try.func59 rfl rfl zl fun f S=>?_;unfold ZNe at H;refine sr (mw S rfl fun f S=>oe (sr (mw S rfl fun f S=>oe (Zh fun _ L=>sr (mv S rfl fun f S=>ov S rfl (ZR S (ZE l) rfl rfl ZI) fun f S=>ov S rfl (Zi S rfl rfl Zya) fun f S=>oe ?_)))));obtain ⟨M,N,P⟩:=Zb H;refine ZP (fun f w=>∃ (m : Int) (g : Zd),m = M ∧ Zd.le c g ∧ St 23 d c [(1,.slice x A B),(5,.int .u64 (m))] [] g f w ∧ inR .u64 m) (fun _ C=>?_) ?_
  · have H:=N;rcases Zx (decide ((0 : Int) < (((Zj 18446744073709551616 a)).length : Int))) with h | h
    · have H:=Zw H h;refine ZH S rfl h ?_;obtain ⟨an,o,H⟩:=Zb H;refine Zm (mv S rfl fun f S=>?_);obtain ⟨_,ao,ap,aq,rfl,Q,R⟩:=ZFa l (Zk o).2.1;obtain ⟨rfl,T⟩:=R;refine ov S rfl (ZT S rfl rfl ZI (Zk o).1 (ltI (ZE l) (Zk o).2.2.1)) fun f S=>ov S rfl (Zoa S rfl Z6 (S.view Q)) fun f S=>mw S rfl fun f S=>Zl ?_;obtain rfl:=Zg H;refine Zc (C _ _ ⟨_,_,rfl,(leR _),(S.fr' rfl),T⟩)
    have H:=Zy H h;refine ZF S rfl h (wp_skip ?_);obtain rfl:=Zg H;refine Zc (C _ _ ⟨_,_,rfl,(leR _),(S.fr' rfl),(by decide)⟩)
  rintro f w ⟨m,g,hq,U,S,V⟩;subst hq;have H:=P;refine Zc (L _ _ (Zh fun _ W=>?_));obtain ⟨ar,p,H⟩:=Zb H;refine Zm (mv S rfl fun f S=>?_);have e:=Zp U e;obtain ⟨_,au,av,aw,rfl,X,Y⟩:=ZFa e (Zk p).2.1;obtain ⟨rfl,Z⟩:=Y;refine ov S rfl (ZT S rfl rfl ZI (Zk p).1 (ltI (ZE e) (Zk p).2.2.1)) fun f S=>ov S rfl (Zoa S rfl Z6 (S.view X)) fun f S=>mw S rfl fun f S=>Zl (Zc (W _ _ (Zh fun _ aa=>?_)));obtain ⟨ab,ac,ad⟩:=Zb H;refine ZP (fun f w=>∃ (i : Int) (q : Zd),i = ab ∧ Zd.le g q ∧ St 23 d c [(5,.int .u64 (i))] [] q f w ∧ inR .u64 i) (fun _ ae=>?_) ?_
  · have H:=ac;refine wp_block ?_;obtain ⟨ax,af,ag⟩:=Zb H;refine ZMa af (fun ah f w=>∃ (n : Int) (j : Int) (r : Zd),(n,j) = ah ∧ Zd.le g r ∧ St 23 d c [(5,.int .u64 (n)),(6,.int .u64 (j))] [] r f w ∧ inR .u64 n ∧ inR .u64 j) ⟨_,_,_,rfl,(leR _),(S.fr' rfl),V,Z⟩ ?_;rintro _ f w st ⟨n,j,r,hq,D,S,E,ai⟩ H ay aj ak;subst hq;refine Zh fun _ al=>sr (mv S rfl fun f S=>ov S rfl (Zi S rfl rfl Zya) fun f S=>oe ?_);rcases Zx (decide ((0 : Int) < j)) with k | k
    · have H:=Zw H k;refine ZH S rfl k (wp_skip (Zc (al _ _ (wp_block ?_))));obtain ⟨az,s,H⟩:=Zb H;refine Zia (fl:=#[true,true,true,true,false,false]) Zja (by kernel_rfl) S ?_;intro ops O F w S;refine rfa O F 0 rfl rfl S (Zs S rfl) fun f S=>rfa O F 1 rfl rfl S (Zs S rfl) fun f S=>rfa O F 2 rfl rfl S (Zs S rfl) fun f S=>rfa O F 3 rfl rfl S (Zi S rfl rfl (ZVc s)) fun f S=>go1 O F 4 (nva [0,1] [2,3] O rfl rfl S (Zka S rfl) fun f S=>⟨(py S rfl rfl (Zs S rfl) (py S rfl rfl (Zi S rfl rfl (ZVc s)) Zr)),go1 O F 5 (nva [0,1,2,3,4] [] O rfl rfl S (Zka S rfl) fun f S=>⟨Zr,Z1 O F (Zsa ?_)⟩)⟩);obtain rfl:=Zg H;refine aj _ rfl _ _ ⟨_,_,_,rfl,D,(S.fr' rfl),ai,(ZIj E s)⟩
    have H:=Zy H k;refine ZF S rfl k (wp_exit (ZZ ?_));obtain rfl:=Zg H;have hq:=ak _ rfl;subst hq;have H:=ag;refine ZZ (ZBa ?_);obtain rfl:=Zg H;refine Zc (ae _ _ ⟨_,_,rfl,(leT (leR _) D),(S.fr' rfl),E⟩)
  rintro f w ⟨i,q,hq,aA,S,am⟩;subst hq;have H:=ad;refine Zc (aa _ _ (sr (mv S rfl fun f S=>mw S rfl fun f S=>oe (wp_ret ?_))));obtain rfl:=Zg H;refine ZC S (ZL rfl (ZD S rfl)) ⟨[.int .u64 (i)],rfl,(Zv am)⟩
theorem small_c {d : World} {c : Zd} (hv : VIn c d) {e : List Value} {a : Nat} (h : Rep.rel Zu c e a) {f : List Value} {b : Nat} (i : Rep.rel Zu c f b) {z : Int} (hm : Zve a b = some z) :
    Ret Try.prog 59 #[Zu.val e,Zu.val f] d c (fun y v'=>∃ g,y = (Ze .u64).val g ∧ (Ze .u64).rel v' g z) :=
  small_w hv h i (ZUm hm)
theorem gcd_w {n : World} {d : Zd} (hv : VIn d n) {G : List Value} {a : Nat} (I : Rep.rel Zu d G a) {J : List Value} {b : Nat} (L : Rep.rel Zu d J b) {z : Nat} (H : Znf a b = some z) : Ret Try.prog 40 #[Zu.val G,Zu.val J] n d (fun y v'=>∃ M,y = Zu.val M ∧ Zu.rel v' M z):=by
  obtain ⟨W,X,Y,rfl⟩:=ZU I;obtain ⟨Z,n5,k6,rfl⟩:=ZU L;refine ZV (K:=31) (args:=[.slice W X Y,.slice Z n5 k6]) hv Try.func40 rfl rfl zl fun f S=>?_;unfold Znf at H;refine sr (mw S rfl fun f S=>oe (Zh fun _ aa=>?_));obtain ⟨ab,ac,N⟩:=Zb H;refine ZP (fun f w=>∃ (D : Nat) (s : Option Addr) (u : Nat) (v : Nat) (x : Zd),(.inl D) = ab ∧ Zd.le d x ∧ St 31 n d [(0,.slice s u v)] [] x f w ∧ Rep.rel Zu x [.slice s u v] D) (fun _ ad=>?_) ?_
  · have H:=ac;refine wp_block ?_;obtain ⟨aB,ae,O⟩:=Zb H;refine ZMa ae (fun af f w=>∃ (A : Nat) (B : Nat) (g : Option Addr) (h : Nat) (i : Nat) (j : Option Addr) (k : Nat) (l : Nat) (m : Zd),(A,B) = af ∧ Zd.le d m ∧ St 31 n d [(0,.slice g h i),(1,.slice j k l)] [] m f w ∧ Rep.rel Zu m [.slice g h i] A ∧ Rep.rel Zu m [.slice j k l] B) ⟨_,_,_,_,_,_,_,_,_,rfl,(leR _),(S.fr' rfl),I,L⟩ ?_;rintro _ f w st ⟨A,B,g,h,i,j,k,l,m,hq,P,S,e,c⟩ H aC ag Q;subst hq;refine Zh fun _ ah=>sr (mv S rfl fun f S=>ov S rfl (ZR S (ZE c) rfl rfl ZI) fun f S=>ov S rfl (Zi S rfl rfl Zya) fun f S=>oe ?_);rcases Zx (decide ((0 : Int) < (((Zj 18446744073709551616 B)).length : Int))) with o | o
    · have H:=Zw H o;refine ZH S rfl o (wp_skip (Zc (ah _ _ (wp_block (Zh fun _ ai=>Zh fun _ aj=>?_)))));obtain ⟨ak,al,am⟩:=Zb H;refine ZP (fun f w=>∃ (C : Bool) (E : Zd),C = ak ∧ Zd.le m E ∧ St 31 n d [(0,.slice g h i),(1,.slice j k l),(17,.bool (C))] [] E f w) (fun _ R=>?_) ?_
      · have H:=al;rcases Zx (decide ((((Zj 18446744073709551616 A)).length : Int) ≤ (1 : Int))) with p | p
        · have H:=Zw H p;refine Zm (mv S rfl fun f S=>ov S rfl (ZR S (ZE e) rfl rfl ZI) fun f S=>ov S rfl (Zi S rfl rfl Z9b) fun f S=>?_);have S:=S.bool (t:=12) rfl p;refine mv S rfl fun f S=>opy S rfl rfl rfl rfl (Zs S rfl) fun f S=>opy S rfl rfl rfl rfl (ZR S (ZE c) rfl rfl ZI) fun f S=>opy S rfl rfl rfl rfl (Zi S rfl rfl Z9b) fun f S=>ov S rfl (ZG S (b:=true) rfl rfl) fun f S=>Zl ?_;obtain rfl:=Zg H;refine Zc (R _ _ ⟨_,_,rfl,(leR _),(S.fr' rfl)⟩)
        have H:=Zy H p;refine Zm (mv S rfl fun f S=>ov S rfl (ZR S (ZE e) rfl rfl ZI) fun f S=>ov S rfl (Zi S rfl rfl Z9b) fun f S=>?_);have S:=S.bool (t:=12) rfl p;refine mv S rfl fun f S=>opn S rfl rfl rfl rfl fun f S=>opn S rfl rfl rfl rfl fun f S=>opn S rfl rfl rfl rfl fun f S=>ov S rfl (ZG S (b:=false) rfl rfl) fun f S=>Zl ?_;obtain rfl:=Zg H;refine Zc (R _ _ ⟨_,_,rfl,(leR _),(S.fr' rfl)⟩)
      rintro f w ⟨C,E,hq,q,S⟩;subst hq;have H:=am;refine Zc (aj _ _ ?_);rcases Zx (C) with r | r
      · have H:=Zw H r;refine ZH S rfl r (Zh fun _ an=>?_);obtain ⟨F,ao,H⟩:=Zb H;obtain ⟨aD,ap,H⟩:=Zb H;refine Zm (mv S rfl fun f S=>mv S rfl fun f S=>?_);have e:=Zp q e;have c:=Zp q c;refine opc S rfl (Zo S [.slice g h i,.slice j k l] k_en59 rfl rfl) (small_c S.vin e c ao) ?_;rintro _ aE f w aF ⟨aG,rfl,aq⟩ S;obtain ⟨rfl,ar⟩:=aq;refine opc S rfl (Zo S [.int .u64 (F)] ZVd rfl rfl) (Zqe S.vin (show Rep.rel (Ze .u64) _ [.int .u64 (F)] F from (Zv ar)) ap) ?_;rintro _ aH f w aI ⟨aJ,rfl,T⟩ S;obtain ⟨au,av,aw,rfl⟩:=ZU T;refine mw S rfl fun f S=>Zl (Zc (an _ _ (wp_ret (ZM (ZDa ?_)))));obtain rfl:=Zg H;have hq:=Q _ rfl;subst hq;have H:=O;refine ZM (ZDa ?_);obtain rfl:=Zg H;have H:=N;refine ZM (ZM ?_);obtain rfl:=Zg H;refine ZC S (ZL rfl (ZD S rfl)) ⟨[.slice au av aw],rfl,T⟩
      have H:=Zy H r;refine ZF S rfl r (wp_skip (Zc (ai _ _ (Zh fun _ ax=>?_))));obtain ⟨aK,ay,H⟩:=Zb H;refine Zm (mv S rfl fun f S=>mv S rfl fun f S=>?_);have e:=Zp q e;have c:=Zp q c;refine opc S rfl (Zo S [.slice g h i,.slice j k l] Zth rfl rfl) (Zmh S.vin e c ay) ?_;rintro _ aL f w U ⟨aM,aN,rfl,az,V⟩ S;obtain ⟨aO,aP,aQ,rfl⟩:=ZU az;obtain ⟨aR,aS,aT,rfl⟩:=ZU V;refine mv S rfl fun f S=>ov S rfl (ZA S rfl rfl) fun f S=>ov S rfl (ZA S rfl rfl) fun f S=>mw S rfl fun f S=>mw S rfl fun f S=>Zl (Zc (ax _ _ (Zm (mv S rfl fun f S=>mv S rfl fun f S=>mw S rfl fun f S=>mw S rfl fun f S=>Zl (Zsa ?_)))));obtain rfl:=Zg H;have c:=Zp U c;refine ag _ rfl _ _ ⟨_,_,_,_,_,_,_,_,_,rfl,(leT (leT P q) U),(S.fr' rfl),c,V⟩
    have H:=Zy H o;refine ZF S rfl o (wp_exit (ZZ ?_));obtain rfl:=Zg H;have hq:=Q _ rfl;subst hq;have H:=O;refine ZZ (ZBa ?_);obtain rfl:=Zg H;refine Zc (ad _ _ ⟨_,_,_,_,_,rfl,(leT (leR _) P),(S.fr' rfl),e⟩)
  rintro f w ⟨D,s,u,v,x,hq,aU,S,aA⟩;subst hq;have H:=N;refine Zc (aa _ _ (sr (mv S rfl fun f S=>mw S rfl fun f S=>oe (wp_ret ?_))));obtain rfl:=Zg H;refine ZC S (ZL rfl (ZD S rfl)) ⟨[.slice s u v],rfl,aA⟩
theorem gcd_c {d : World} {c : Zd} (hv : VIn c d) {e : List Value} {a : Nat} (h : Rep.rel Zu c e a) {f : List Value} {b : Nat} (i : Rep.rel Zu c f b) {z : Nat} (hm : gcdF a b = some z) :
    Ret Try.prog 40 #[Zu.val e,Zu.val f] d c (fun y v'=>∃ g,y = Zu.val g ∧ Zu.rel v' g z) :=
  gcd_w hv h i (gcdF_eq hm)
theorem isOne_w {h : World} {c : Zd} (hv : VIn c h) {k : List Value} {a : (List Int)} (d : Rep.rel (ZK (Ze .u64)) c k a) {z : Bool} (H : ZSg a = some z) : Ret Try.prog 41 #[(ZK (Ze .u64)).val k] h c (fun y v'=>∃ l,y = Zha.val l ∧ Zha.rel v' l z):=by
  obtain ⟨n,o,p,rfl⟩:=Zpb d;refine ZV (K:=12) (args:=[.slice n (o) p]) hv Try.func41 rfl rfl zl fun f S=>?_;unfold ZSg at H;refine sr (mw S rfl fun f S=>oe (Zh fun _ q=>?_));obtain ⟨r,s,u⟩:=Zb H;refine ZP (fun f w=>∃ (g : Bool) (i : Zd),g = r ∧ Zd.le c i ∧ St 12 h c [(2,.bool (g))] [] i f w) (fun _ m=>?_) ?_
  · have H:=s;rcases Zx (((a.length : Int)) == ((1 : Int))) with e | e
    · have H:=Zw H e;obtain ⟨A,j,H⟩:=Zb H;refine Zm (mv S rfl fun f S=>ov S rfl (ZR S (ZE d) rfl rfl ZI) fun f S=>ov S rfl (Zi S rfl rfl Zpa) fun f S=>?_);have S:=S.bool (t:=5) rfl e;refine mv S rfl fun f S=>opy S rfl rfl rfl rfl (Zs S rfl) fun f S=>?_;obtain ⟨_,B,C,D,rfl,v,x⟩:=ZFa d (Zk j).2.1;obtain ⟨rfl,E⟩:=x;refine opy S rfl rfl rfl rfl (ZT S rfl rfl ZI (Zk j).1 (ltI (ZE d) (Zk j).2.2.1)) fun f S=>opy S rfl rfl rfl rfl (Zoa S rfl Z6 (S.view v)) fun f S=>opy S rfl rfl rfl rfl (Zi S rfl rfl Zpa) fun f S=>ov S rfl (ZG S (b:=true) rfl rfl) fun f S=>mw S rfl fun f S=>Zl ?_;obtain rfl:=Zg H;refine Zc (m _ _ ⟨_,_,rfl,(leR _),(S.fr' rfl)⟩)
    have H:=Zy H e;refine Zm (mv S rfl fun f S=>ov S rfl (ZR S (ZE d) rfl rfl ZI) fun f S=>ov S rfl (Zi S rfl rfl Zpa) fun f S=>?_);have S:=S.bool (t:=5) rfl e;refine mv S rfl fun f S=>opn S rfl rfl rfl rfl fun f S=>opn S rfl rfl rfl rfl fun f S=>opn S rfl rfl rfl rfl fun f S=>opn S rfl rfl rfl rfl fun f S=>ov S rfl (ZG S (b:=false) rfl rfl) fun f S=>mw S rfl fun f S=>Zl ?_;obtain rfl:=Zg H;refine Zc (m _ _ ⟨_,_,rfl,(leR _),(S.fr' rfl)⟩)
  rintro f w ⟨g,i,hq,F,S⟩;subst hq;have H:=u;refine Zc (q _ _ (wp_ret ?_));obtain rfl:=Zg H;refine ZC S (ZL rfl (ZD S rfl)) ⟨[.bool (g)],rfl,ZUa⟩
theorem Zhh {c : World} {b : Zd} (hv : VIn b c) {d : List Value} {a : Nat} (f : Rep.rel Zu b d a) {z : Bool} (hm : Zvd a = some z) :
    Ret Try.prog 41 #[Zu.val d] c b (fun y v'=>∃ e,y = Zha.val e ∧ Zha.rel v' e z) :=
  isOne_w hv f (ZWk.trans hm)
theorem over_w {x : World} {o : Zd} (hv : VIn o x) {X : List Value} {n : Int} (Y : Rep.rel ZW o X n) {Z : List Value} {d : Nat} (g : Rep.rel Zu o Z d) {z : Rat} (H : ZJg n d = some z) : Ret Try.prog 20 #[ZW.val X,Zu.val Z] x o (fun y v'=>∃ r0,y = Za.val r0 ∧ Za.rel v' r0 z):=by
  obtain ⟨s1,A,B,C,rfl⟩:=Zwa Y;obtain ⟨M,N,O,rfl⟩:=ZU g;refine ZV (K:=32) (args:=[.agg #[.bool s1,.slice A B C],.slice M N O]) hv Try.func20 rfl rfl zl fun f S=>?_;unfold ZJg at H;refine sr (ob S rfl (cs:=[.bool s1,.slice A B C]) rfl fun p f w S=>ZY S wn rfl zl (cs:=[.bool false,.slice none 0 0,.slice none 0 0]) (ZN Z0) fun q f w S=>oe (Zh fun _ af=>Zh fun _ ag=>?_));obtain ⟨aU,ah,H⟩:=Zb H;refine Zm (ov S rfl (Zq S rfl ZGa) fun f S=>?_);obtain ⟨rfl,j⟩:=Z2a Y;refine ov S rfl (lo S rfl Z3 1 rfl rfl) fun f S=>mv S rfl fun f S=>opc S rfl (Zo S [.slice A B C,.slice M N O] k_en40 rfl rfl) (gcd_c S.vin j g ah) ?_;rintro _ aV f w D ⟨aW,rfl,h⟩ S;obtain ⟨P,Q,R,rfl⟩:=ZU h;refine mw S rfl fun f S=>Zl (Zc (ag _ _ (Zh fun _ ai=>?_)));obtain ⟨aj,ak,H⟩:=Zb H;refine Zm (mv S rfl fun f S=>opc S rfl (Zo S [.slice P Q R] ZUg rfl rfl) (Zhh S.vin h ak) ?_);rintro _ al f w r ⟨aX,rfl,am⟩ S;obtain rfl:=am;refine ov S rfl (Zue S rfl) fun f S=>Zl (Zc (ai _ _ ?_));obtain ⟨an,ao,ap⟩:=Zb H;refine ZP (fun f w=>∃ (T : Nat) (a : (Bool × Nat)) (E : Option Addr) (F : Nat) (G : Nat) (b : Option Addr) (c : Nat) (e : Nat) (t : Zd),(T,a) = an ∧ Zd.le al t ∧ St 32 x o [(1,.slice E F G),(2,.pointer (some ⟨p,0,none⟩)),(4,.pointer (some ⟨q,0,none⟩))] [Loc.box q 37 [.bool false,.slice none 0 0,.slice none 0 0],Loc.box p 35 [.bool (a.1),.slice b c e]] t f w ∧ Rep.rel Zu t [.slice E F G] T ∧ Rep.rel Zu t [.slice b c e] a.2) (fun _ aa=>?_) ?_
  · have H:=ao;rcases Zx (!(aj)) with u | u
    · have H:=Zw H u;refine ZH S rfl u (Zh fun _ aq=>?_);obtain ⟨aY,ar,H⟩:=Zb H;refine Zm (ov S rfl (Zq S rfl ZGa) fun f S=>ov S rfl (lo S rfl Z3 1 rfl rfl) fun f S=>mv S rfl fun f S=>?_);have j:=Zp (leT D r) j;have h:=Zp r h;refine opc S rfl (Zo S [.slice A B C,.slice P Q R] Zth rfl rfl) (Zmh S.vin j h ar) ?_;rintro _ aZ f w U ⟨a0,a1,rfl,I,au⟩ S;obtain ⟨av,aw,ax,rfl⟩:=ZU I;obtain ⟨a2,a3,a4,rfl⟩:=ZU au;refine mv S rfl fun f S=>ov S rfl (ZA S rfl rfl) fun f S=>ov S rfl (ZA S rfl rfl) fun f S=>ov S rfl (Zq S rfl ZGa) fun f S=>?_;obtain ⟨w,ay,S⟩:=ZBb S Z3 (off:=1) (z:=.slice av aw ax) (Zxb rfl) rfl (i:=1) rfl zl (by first | rfl | simp [ZEa]);refine ZS wn rfl (ay rfl rfl) (Zl (Zc (aq _ _ ?_)));obtain ⟨a5,az,H⟩:=Zb H;refine Zm (mv S rfl fun f S=>mv S rfl fun f S=>?_);have g:=Zp (leT (leT D r) U) g;have h:=Zp U h;refine opc S rfl (Zo S [.slice M N O,.slice P Q R] Zth rfl rfl) (Zmh S.vin g h az) ?_;rintro _ a6 f w ab ⟨a7,a8,rfl,ac,aA⟩ S;obtain ⟨aB,aC,aD,rfl⟩:=ZU ac;obtain ⟨a9,ba,bb,rfl⟩:=ZU aA;refine mv S rfl fun f S=>ov S rfl (ZA S rfl rfl) fun f S=>ov S rfl (ZA S rfl rfl) fun f S=>mw S rfl fun f S=>Zl ?_
      have S:=S.fr' (σ':=[(1,.slice aB aC aD),(2,.pointer (some ⟨p,0,none⟩)),(4,.pointer (some ⟨q,0,none⟩))]) rfl;obtain rfl:=Zg H;have I:=Zp ab I;refine Zc (aa _ _ ⟨_,_,_,_,_,_,_,_,_,rfl,(leT (leT (leR _) U) ab),(S.fr' rfl),ac,I⟩)
    have H:=Zy H u;refine ZF S rfl u (wp_skip ?_);obtain rfl:=Zg H;have g:=Zp (leT D r) g;have j:=Zp (leT D r) j;refine Zc (aa _ _ ⟨_,_,_,_,_,_,_,_,_,rfl,(leR _),(S.fr' rfl),g,j⟩)
  rintro f w ⟨T,a,E,F,G,b,c,e,t,hq,bc,S,J,V⟩;subst hq;have H:=ap;refine Zc (af _ _ (Zh fun _ aE=>Zh fun _ aF=>?_));obtain ⟨aG,aH,H⟩:=Zb H;refine Zm (mv S rfl fun f S=>opc S rfl (Zo S [.slice E F G] ZUg rfl rfl) (Zhh S.vin J aH) ?_);rintro _ aI f w ad ⟨bd,rfl,aJ⟩ S;obtain rfl:=aJ;refine Zl (Zc (aF _ _ ?_));obtain ⟨aK,aL,aM⟩:=Zb H;refine ZP (fun f w=>∃ (W : Nat) (k : Option Addr) (l : Nat) (m : Nat) (L : Zd),W = aK ∧ Zd.le aI L ∧ St 32 x o [(1,.slice k l m),(2,.pointer (some ⟨p,0,none⟩)),(4,.pointer (some ⟨q,0,none⟩))] [Loc.box q 37 [.bool false,.slice none 0 0,.slice none 0 0],Loc.box p 35 [.bool (a.1),.slice b c e]] L f w ∧ Rep.rel Zu L [.slice k l m] W) (fun _ ae=>?_) ?_
  · have H:=aL;rcases Zx (aG) with v | v
    · have H:=Zw H v;refine ZH S rfl v (Zm (mw S rfl fun f S=>Zl ?_));obtain rfl:=Zg H;refine Zc (ae _ _ ⟨_,_,_,_,_,rfl,(leR _),(S.fr' rfl),(ZJd _)⟩)
    have H:=Zy H v;refine ZF S rfl v (wp_skip ?_);obtain rfl:=Zg H;have J:=Zp ad J;refine Zc (ae _ _ ⟨_,_,_,_,_,rfl,(leR _),(S.fr' rfl),J⟩)
  rintro f w ⟨W,k,l,m,L,hq,aN,S,aO⟩;subst hq;have H:=aM;refine Zc (aE _ _ (sr (ov S rfl (la S (cs:=[.bool (a.1),.slice b c e]) rfl Zfa 1 rfl rfl rfl) fun f S=>mv S rfl fun f S=>ov S rfl (ZLa S [(0,.agg #[.bool (a.1),.slice b c e]),(1,.slice k l m)] rfl (z:=.agg #[.bool (a.1),.slice b c e,.slice k l m]) (by kernel_rfl)) fun f S=>?_)));obtain ⟨w,aP,S⟩:=sbp S [.bool (a.1),.slice b c e,.slice k l m] Zn 0 0 rfl;refine ZS wn rfl (aP rfl rfl) (oe (wp_ret ?_));obtain ⟨be,aQ,H⟩:=Zb H;obtain ⟨bf,aR,H⟩:=Zb H;have V:=Zp (leT ad aN) V;have aS:=Zbg (s:=a.1) V aQ;have aT:=Zqg aS aO aR;obtain rfl:=Zg H;refine ZC S (ZL rfl (Zva S rfl Zn 0 rfl rfl)) ⟨[.bool (a.1),.slice b c e,.slice k l m],rfl,aT⟩
theorem ZMf {b : World} {a : Zd} (hv : VIn a b) {c : List Value} {n : Int} (g : Rep.rel ZW a c n) {e : List Value} {d : Nat} (h : Rep.rel Zu a e d) {z : Rat} (hm : Z2b n d = some z) :
    Ret Try.prog 20 #[ZW.val c,Zu.val e] b a (fun y v'=>∃ f,y = Za.val f ∧ Za.rel v' f z) :=
  over_w hv g h (Zym hm)
theorem whole_w {p : World} {g : Zd} (hv : VIn g p) {q : List Value} {s : Bool} (A : Rep.rel Zha g q s) {r : List Value} {n : Nat} (m : Rep.rel Zu g r n) {z : Int} (H : Zvg s n = some z) : Ret Try.prog 43 #[Zha.val q,Zu.val r] p g (fun y v'=>∃ u,y = ZW.val u ∧ ZW.rel v' u z):=by
  obtain rfl:=A;obtain ⟨a,c,d,rfl⟩:=ZU m;refine ZV (K:=13) (args:=[.bool (s),.slice a c d]) hv Try.func43 rfl rfl zl fun f S=>?_;unfold Zvg at H;refine sr (ZY S wn rfl zl (cs:=[.bool false,.slice none 0 0]) (ZN Zfc) fun v f w S=>oe (Zh fun _ B=>?_));obtain ⟨C,D,E⟩:=Zb H;refine ZP (fun f w=>∃ (e : (Bool × Nat)) (h : Option Addr) (j : Nat) (k : Nat) (o : Zd),e = C ∧ Zd.le g o ∧ St 13 p g [(4,.pointer (some ⟨v,0,none⟩))] [Loc.box v 35 [.bool (e.1),.slice h j k]] o f w ∧ Rep.rel Zu o [.slice h j k] e.2) (fun _ x=>?_) ?_
  · have H:=D;rcases Zx (s) with l | l
    · have H:=Zw H l;refine Zm (mv S rfl fun f S=>?_);have S:=S.bool (t:=5) rfl l;refine mv S rfl fun f S=>opy S rfl rfl rfl rfl (Zs S rfl) fun f S=>opy S rfl rfl rfl rfl (ZR S (ZE m) rfl rfl ZI) fun f S=>opy S rfl rfl rfl rfl (Zi S rfl rfl Zya) fun f S=>ov S rfl (ZG S (b:=true) rfl rfl) fun f S=>mv S rfl fun f S=>ov S rfl (ZLa S [(0,.bool (decide ((0 : Int) < (((Zj 18446744073709551616 n)).length : Int)))),(1,.slice a c d)] rfl (z:=.agg #[.bool (decide ((0 : Int) < (((Zj 18446744073709551616 n)).length : Int))),.slice a c d]) (by kernel_rfl)) fun f S=>?_;obtain ⟨w,F,S⟩:=sbp S [.bool (decide ((0 : Int) < (((Zj 18446744073709551616 n)).length : Int))),.slice a c d] Zfa 0 0 rfl;refine ZS wn rfl (F rfl rfl) (Zl ?_);obtain rfl:=Zg H;refine Zc (x _ _ ⟨_,_,_,_,_,rfl,(leR _),(S.fr' rfl),m⟩)
    have H:=Zy H l;refine Zm (mv S rfl fun f S=>?_);have S:=S.bool (t:=5) rfl l;refine mv S rfl fun f S=>opn S rfl rfl rfl rfl fun f S=>opn S rfl rfl rfl rfl fun f S=>opn S rfl rfl rfl rfl fun f S=>ov S rfl (ZG S (b:=false) rfl rfl) fun f S=>mv S rfl fun f S=>ov S rfl (ZLa S [(0,.bool (false)),(1,.slice a c d)] rfl (z:=.agg #[.bool (false),.slice a c d]) (by kernel_rfl)) fun f S=>?_;obtain ⟨w,G,S⟩:=sbp S [.bool (false),.slice a c d] Zfa 0 0 rfl;refine ZS wn rfl (G rfl rfl) (Zl ?_);obtain rfl:=Zg H;refine Zc (x _ _ ⟨_,_,_,_,_,rfl,(leR _),(S.fr' rfl),m⟩)
  rintro f w ⟨e,h,j,k,o,hq,M,S,I⟩;subst hq;have H:=E;refine Zc (B _ _ (wp_ret ?_));obtain ⟨N,J,H⟩:=Zb H;have L:=Zbg (s:=e.1) I J;obtain rfl:=Zg H;refine ZC S (ZL rfl (ZJb S rfl Zfa rfl (S.box (i:=0) rfl 0 [.bool (e.1),.slice h j k] rfl))) ⟨[.bool (e.1),.slice h j k],rfl,L⟩
theorem Z8c {b : World} {a : Zd} (hv : VIn a b) {c : List Value} {s : Bool} (f : Rep.rel Zha a c s) {d : List Value} {n : Nat} (g : Rep.rel Zu a d n) {z : Int} (hm : Z8a s n = some z) :
    Ret Try.prog 43 #[Zha.val c,Zu.val d] b a (fun y v'=>∃ e,y = ZW.val e ∧ ZW.rel v' e z) :=
  whole_w hv f g (Z0k hm)
theorem qnew_w {j : World} {b : Zd} (hv : VIn b j) {k : List Value} {n : Int} (J : Rep.rel (Ze .i64) b k n) {l : List Value} {d : Int} (L : Rep.rel (Ze .i64) b l d) {z : Rat × Int} (H : Z2g n d = some z) : Ret Try.prog 26 #[(Ze .i64).val k,(Ze .i64).val l] j b (fun y v'=>∃ m c,y = .tuple #[Za.val m,(Ze .i64).val c] ∧ Za.rel v' m z.1 ∧ (Ze .i64).rel v' c z.2):=by
  obtain ⟨rfl,c⟩:=J;obtain ⟨rfl,M⟩:=L;refine ZV (K:=26) (args:=[.int .i64 (n),.int .i64 (d)]) hv Try.func26 rfl rfl zl fun f S=>?_;unfold Z2g at H;refine sr (ZY S wn rfl zl (cs:=[.bool false,.slice none 0 0,.slice none 0 0]) (ZN Z0) fun N f w S=>mw S rfl fun f S=>oe (Zh fun _ P=>sr (mv S rfl fun f S=>ov S rfl (Zi S rfl rfl Zpa) fun f S=>oe ?_)));rcases Zx (d == ((0 : Int))) with a | a
  · have H:=Zw H a;refine ZH S rfl a (sr (ov S rfl (ZLa S [] rfl (z:=.agg #[.bool false,.slice none 0 0,.slice none 0 0]) (by kernel_rfl)) fun f S=>?_));obtain ⟨w,Q,S⟩:=sbp S [.bool false,.slice none 0 0,.slice none 0 0] Zn 0 0 rfl;refine ZS wn rfl (Q rfl rfl) (mw S rfl fun f S=>oe (wp_ret (ZM ?_)));obtain rfl:=Zg H;refine ZC S (Zqa rfl (Zva S rfl Zn 0 rfl rfl) (ZD S rfl)) ⟨[.bool false,.slice none 0 0,.slice none 0 0],[.int .i64 ((3 : Int))],rfl,(ZNb _),(Zv (by decide))⟩
  have H:=Zy H a;refine ZF S rfl a (wp_skip (Zc (P _ _ (Zh fun _ R=>?_))));obtain ⟨g,T,H⟩:=Zb H;obtain ⟨h,U,H⟩:=Zb H;refine Zm (mv S rfl fun f S=>opc S rfl (Zo S [.int .i64 (n)] Ztg rfl rfl) (of_c S.vin (show Rep.rel (Ze .i64) _ [.int .i64 (n)] n from (Zv c)) T) ?_);rintro _ ak f w al ⟨am,rfl,e⟩ S;obtain ⟨V,o,p,q,rfl⟩:=Zwa e;refine mv S rfl fun f S=>opc S rfl (Zo S [.int .i64 (d)] Ztg rfl rfl) (of_c S.vin (show Rep.rel (Ze .i64) _ [.int .i64 (d)] d from (Zv M)) U) ?_;rintro _ an f w W ⟨ao,rfl,r⟩ S;obtain ⟨X,s,t,u,rfl⟩:=Zwa r;refine ZY S wn rfl zl (cs:=[.bool false,.slice none 0 0]) (ZN Zfc) fun ap f w S=>ZY S wn rfl zl (cs:=[.bool false,.slice none 0 0]) (ZN Zfc) fun aq f w S=>?_;obtain ⟨w,Y,S⟩:=sbp S [.bool V,.slice o p q] Zfa 0 1 rfl;refine ZS wn rfl (Y rfl rfl) ?_;obtain ⟨w,Z,S⟩:=sbp S [.bool X,.slice s t u] Zfa 0 0 rfl;refine ZS wn rfl (Z rfl rfl) (Zl (Zc (R _ _ (Zh fun _ aa=>?_))));obtain ⟨ar,ab,H⟩:=Zb H;obtain ⟨au,ac,H⟩:=Zb H;refine Zia (fl:=#[true,true,true,true,true,true,true,false,true,true,false,false,false]) Zja (by kernel_rfl) S ?_;intro ops O F w S;refine rfa O F 0 rfl rfl S (Zq S rfl ZIa) fun f S=>?_;have e:=Zp W e
  obtain ⟨rfl,ad⟩:=Z2a e;refine rfa O F 1 rfl rfl S (lo S rfl ZHa 1 rfl rfl) fun f S=>rfa O F 2 rfl rfl S (Zq S rfl ZIa) fun f S=>?_;obtain ⟨rfl,i⟩:=Z2a r;refine rfa O F 3 rfl rfl S (lo S rfl ZHa 0 rfl rfl) fun f S=>rfa O F 4 rfl rfl S (Ztc S rfl rfl (ZLd _ _)) fun f S=>rfa O F 5 rfl rfl S (Zq S rfl ZGa) fun f S=>rfa O F 6 rfl rfl S (lo S rfl Z3 1 rfl rfl) fun f S=>rfa O F 8 rfl rfl S (Zq S rfl ZGa) fun f S=>rfa O F 9 rfl rfl S (lo S rfl Z3 0 rfl rfl) fun f S=>go1 O F 7 (nxc [4,6,1,3,5,0,2] [8,9] O rfl S rfl (Zo S [.bool ((decide (g < 0)) != (decide (h < 0))),.slice o p q] ZWc rfl rfl) (Z8c S.vin (show Rep.rel Zha _ [.bool ((decide (g < 0)) != (decide (h < 0)))] ((decide (g < 0)) != (decide (h < 0))) from ZUa) ad ab) ?_);rintro _ av f w ae ⟨aw,rfl,v⟩ S;obtain ⟨af,ag,ah,ai,rfl⟩:=Zwa v;refine ⟨(py S rfl rfl (Zq S rfl ZGa) (py S rfl rfl (lo S rfl Z3 0 rfl rfl) Zr)),go1 O F 10 ?_⟩;have i:=Zp ae i;refine nxc [7,9,4,6,8,1,3,5,0,2] [] O rfl S rfl (Zo S [.agg #[.bool af,.slice ag ah ai],.slice s t u] Zmf rfl rfl) (ZMf S.vin v i ac) ?_;rintro _ ax f w ay ⟨az,rfl,x⟩ S;obtain ⟨A,B,C,D,E,G,I,rfl⟩:=ZQa x;refine ⟨Zr,go1 O F 11 ?_⟩;obtain ⟨w,aj,S⟩:=sbp S [.bool A,.slice B C D,.slice E G I] Zn 0 2 rfl
  refine nxs [0,1,2,3,4,5,6,7,8,9,10] [] O rfl rfl (aj rfl rfl) (⟨Zr,go1 O F 12 (nva [0,1,2,3,4,5,6,7,8,9,10,11] [] O rfl rfl S (Zka S rfl) fun f S=>⟨Zr,Z1 O F ?_⟩)⟩);have S:=S.fr' (σ':=[(4,.pointer (some ⟨N,0,none⟩)),(5,.int .i64 ((0 : Int)))]) rfl;refine Zc (aa _ _ (wp_ret ?_));obtain rfl:=Zg H;refine ZC S (Zqa rfl (Zva S rfl Zn 2 rfl rfl) (ZD S rfl)) ⟨[.bool A,.slice B C D,.slice E G I],[.int .i64 ((0 : Int))],rfl,x,(Zv (by decide))⟩
theorem qnew_c {b : World} {a : Zd} (hv : VIn a b) {c : List Value} {n : Int} (e : Rep.rel (Ze .i64) a c n) {f : List Value} {d : Int} (g : Rep.rel (Ze .i64) a f d) {z : Rat × Int} (hm : ZLe n d = some z) :
    Ret Try.prog 26 #[(Ze .i64).val c,(Ze .i64).val f] b a (fun y v'=>∃ h i,y = Value.tuple #[Za.val h,(Ze .i64).val i] ∧ Za.rel v' h z.1 ∧ (Ze .i64).rel v' i z.2) :=
  qnew_w hv e g (ZQk e.2 g.2 hm)
theorem ZKk {k : World} {b : Zd} (hv : VIn b k) {l : List Value} {r : (Int × Int)} (B : Rep.rel (Zt (Ze .i64) (Ze .i64)) b l r) {z : Rat} (H : ZQg r = some z) : Ret Try.prog 11 #[(Zt (Ze .i64) (Ze .i64)).val l] k b (fun y v'=>∃ m,y = Za.val m ∧ Za.rel v' m z):=by
  obtain ⟨Q,R,rfl,C,D⟩:=B;obtain ⟨rfl,n⟩:=C;obtain ⟨rfl,E⟩:=D;refine ZV (K:=20) (args:=[.agg #[.int .i64 (r.1),.int .i64 (r.2)]]) hv Try.func11 rfl rfl zl fun f S=>?_;unfold ZQg at H;refine sr (ob S rfl (cs:=[.int .i64 (r.1),.int .i64 (r.2)]) rfl fun T f w S=>ZY S wn rfl zl (cs:=[.bool false,.slice none 0 0,.slice none 0 0]) (ZN Z0) fun U f w S=>oe (Zh fun _ F=>sr (ov S rfl (Zq S rfl Zpi) fun f S=>ov S rfl (lo S rfl Z1g 1 rfl rfl) fun f S=>ov S rfl (Zi S rfl rfl Zpa) fun f S=>oe ?_)));rcases Zx (r.2 == ((0 : Int))) with a | a
  · have H:=Zw H a;refine ZH S rfl a (Zh fun _ G=>?_);obtain ⟨V,I,H⟩:=Zb H;refine Zm (ov S rfl (Zq S rfl Zli) fun f S=>ov S rfl (lo S rfl Z1g 1 rfl rfl) fun f S=>opc S rfl (Zo S [.int .i64 (r.1)] ZMc rfl rfl) (ZQc S.vin (show Rep.rel (Ze .i64) _ [.int .i64 (r.1)] r.1 from (Zv n)) I) ?_);rintro _ W f w X ⟨Y,rfl,o⟩ S;obtain ⟨p,q,s,t,u,v,x,rfl⟩:=ZQa o;obtain ⟨w,J,S⟩:=sbp S [.bool p,.slice q s t,.slice u v x] Zn 0 0 rfl;refine ZS wn rfl (J rfl rfl) (Zl (Zc (G _ _ (wp_ret (ZM ?_)))));obtain rfl:=Zg H;refine ZC S (ZL rfl (Zva S rfl Zn 0 rfl rfl)) ⟨[.bool p,.slice q s t,.slice u v x],rfl,o⟩
  have H:=Zy H a;refine ZF S rfl a (wp_skip (Zc (F _ _ (Zh fun _ L=>?_))));obtain ⟨Z,M,H⟩:=Zb H;refine Zm (ov S rfl (Zq S rfl Zli) fun f S=>ov S rfl (lo S rfl Z1g 1 rfl rfl) fun f S=>ov S rfl (Zq S rfl Zpi) fun f S=>ov S rfl (lo S rfl Z1g 1 rfl rfl) fun f S=>opc S rfl (Zo S [.int .i64 (r.1),.int .i64 (r.2)] k_en26 rfl rfl) (qnew_c S.vin (show Rep.rel (Ze .i64) _ [.int .i64 (r.1)] r.1 from (Zv n)) (show Rep.rel (Ze .i64) _ [.int .i64 (r.2)] r.2 from (Zv E)) M) ?_);rintro _ aa f w ab ⟨ac,ad,rfl,A,N⟩ S;obtain ⟨c,d,e,g,h,i,j,rfl⟩:=ZQa A;obtain ⟨rfl,ae⟩:=N;refine mv S rfl fun f S=>ov S rfl (ZA S rfl rfl) fun f S=>ov S rfl (ZA S rfl rfl) fun f S=>ZY S wn rfl zl (cs:=[.bool false,.slice none 0 0,.slice none 0 0]) (ZN Z0) fun af f w S=>?_;obtain ⟨w,O,S⟩:=sbp S [.bool c,.slice d e g,.slice h i j] Zn 0 0 rfl;refine ZS wn rfl (O rfl rfl) (mw S rfl fun f S=>Zl (Zc (L _ _ (sr (ov S rfl (la3 S rfl Zn 0 rfl rfl) fun f S=>?_)))));obtain ⟨w,P,S⟩:=sbp S [.bool c,.slice d e g,.slice h i j] Zn 0 1 rfl;refine ZS wn rfl (P rfl rfl) (oe (wp_ret ?_));obtain rfl:=Zg H;refine ZC S (ZL rfl (Zva S rfl Zn 1 rfl rfl)) ⟨[.bool c,.slice d e g,.slice h i j],rfl,A⟩
theorem Z2j {b : World} {a : Zd} (hv : VIn a b) {c : List Value} {r : (Int × Int)} (e : Rep.rel (Zt (Ze .i64) (Ze .i64)) a c r) {z : Rat} (hm : Z6d r = some z) :
    Ret Try.prog 11 #[(Zt (Ze .i64) (Ze .i64)).val c] b a (fun y v'=>∃ d,y = Za.val d ∧ Za.rel v' d z) :=
  ZKk hv e (Zil hm)
theorem minus_w {B : World} {e : Zd} (hv : VIn e B) {c0 : List Value} {a : Nat} (k : Rep.rel Zu e c0 a) {c1 : List Value} {b : Nat} (p : Rep.rel Zu e c1 b) {z : Nat} (H : ZFf a b = some z) : Ret Try.prog 45 #[Zu.val c0,Zu.val c1] B e (fun y v'=>∃ r0,y = Zu.val r0 ∧ Zu.rel v' r0 z):=by
  obtain ⟨q1,Q,R,rfl⟩:=ZU k;obtain ⟨T,U,V,rfl⟩:=ZU p;refine ZV (K:=41) (args:=[.slice q1 Q R,.slice T U V]) hv Try.func45 rfl rfl zl fun f S=>?_;unfold ZFf at H;refine sr (mw S rfl fun f S=>oe (Zh fun _ ai=>?_));obtain ⟨a1,N,H⟩:=Zb H;refine Zm (mv S rfl fun f S=>ov S rfl (ZR S (ZE k) rfl rfl ZI) fun f S=>?_);obtain ⟨aa,ab⟩ : ∃ c : List Value,c = (List.replicate ((((Zj 18446744073709551616 a)).length : Int)).toNat [.int .u64 ((0 : Int))]).flatten:=⟨_,rfl⟩;obtain ⟨aj,w,ak,S⟩:=Z3c ZRb S (l:=(((Zj 18446744073709551616 a)).length : Int)) (c:=(((Zj 18446744073709551616 a)).length : Int)) (Zna N).1 (Zna N).2.1 (Zna N).2.2.1 (Zna N).2.2.2 ab;have al : Rep.rels (Ze .u64) e aa (List.replicate ((((Zj 18446744073709551616 a)).length : Int)).toNat ((0 : Int))):=by rw [ab];exact Zsc (show Rep.rel (Ze .u64) _ [.int .u64 ((0 : Int))] _ from (Zv (by decide))) _
  refine ZWa wn rfl zl (ak rfl rfl) S fun f S=>mw S rfl fun f S=>Zl (Zc (ai _ _ (sr (mw S rfl fun f S=>oe (Zh fun _ am=>sr (mv S rfl fun f S=>ov S rfl (ZR S (ZE k) rfl rfl ZI) fun f S=>mv S rfl fun f S=>oe ?_))))));obtain ⟨an,ao,ap⟩:=Zb H;refine ZP (fun f w=>∃ (q : (List Int)) (C : Option Nat) (r : Nat) (D : Nat) (W : List Value) (O : Zd),q = an ∧ Zd.le e O ∧ St 41 B e [(5,.slice (mkA C) (r) D)] [Loc.own C 86 1 (r) D W] O f w ∧ Rep.rels (Ze .u64) O W q ∧ r = q.length) (fun _ aq=>?_) ?_
  · have H:=ao;refine wp_block ?_;obtain ⟨a2,ar,au⟩:=Zb H;refine ZMa ar (fun av f w=>∃ (s : (List Int)) (t : Int) (d : Int) (u : Option Nat) (h : Nat) (m : Nat) (g : List Value) (E : Zd),(s,t,d) = av ∧ Zd.le e E ∧ St 41 B e [(1,.slice T U V),(5,.slice (mkA u) (h) m),(6,.int .u64 (t)),(13,.slice q1 Q R),(14,.int .i64 ((((Zj 18446744073709551616 a)).length : Int))),(15,.int .i64 (d))] [Loc.own u 86 1 (h) m g] E f w ∧ Rep.rels (Ze .u64) E g s ∧ h = s.length ∧ inR .u64 t ∧ inR .i64 d) ⟨_,_,_,some aj,((((Zj 18446744073709551616 a)).length : Int)).toNat,((((Zj 18446744073709551616 a)).length : Int)).toNat,aa,_,rfl,(leR _),(S.fr' rfl),al,(Zoc (x:=(0 : Int))),(by decide),(by decide)⟩ ?_;rintro _ f w st ⟨s,t,d,u,h,m,g,E,hq,P,S,F,G,a3,a4⟩ H a5 aw ax;subst hq;refine sr (ov S rfl (Zi S rfl rfl Zga) fun f S=>oe (Zh fun _ ay=>?_));rcases Zx (decide (d < (((Zj 18446744073709551616 a)).length : Int))) with I | I
    · have H:=Zw H I;refine ZH S rfl I (wp_skip (Zc (ay _ _ (Zh fun _ az=>wp_block (Zh fun _ aA=>?_)))));obtain ⟨ac,X,H⟩:=Zb H;refine Zm (mv S rfl fun f S=>?_);have k:=Zp P k;obtain ⟨_,aB,aC,a6,rfl,aD,aE⟩:=ZFa k (Zk X).2.1;obtain ⟨rfl,aF⟩:=aE;refine ov S rfl (ZT S rfl rfl ZI (Zk X).1 (ltI (ZE k) (Zk X).2.2.1)) fun f S=>ov S rfl (Zoa S rfl Z6 (S.view aD)) fun f S=>mw S rfl fun f S=>mw S rfl fun f S=>Zl (Zc (aA _ _ (sr (mw S rfl fun f S=>oe (Zh fun _ aG=>sr (mv S rfl fun f S=>mv S rfl fun f S=>?_))))));have p:=Zp P p;refine ov S rfl (ZR S (ZE p) rfl rfl ZI) fun f S=>ov S rfl (Zi S rfl rfl Zga) fun f S=>oe ?_;obtain ⟨aH,aI,aJ⟩:=Zb H;refine ZP (fun f w=>∃ (J : Int) (L : Zd),J = aH ∧ Zd.le E L ∧ St 41 B e [(1,.slice T U V),(5,.slice (mkA u) (h) m),(6,.int .u64 (t)),(7,.int .i64 (d)),(8,.int .u64 (ac)),(9,.int .u64 (J)),(13,.slice (some ⟨aB,aC,none⟩) Q R),(14,.int .i64 ((((Zj 18446744073709551616 a)).length : Int))),(15,.int .i64 (d))] [Loc.own u 86 1 (h) m g] L f w ∧ inR .u64 J) (fun _ ad=>?_) ?_
      · have H:=aI;rcases Zx (decide (d < (((Zj 18446744073709551616 b)).length : Int))) with M | M
        · have H:=Zw H M;refine ZH S rfl M ?_;obtain ⟨a7,Y,H⟩:=Zb H;refine Zm (mv S rfl fun f S=>mv S rfl fun f S=>?_);obtain ⟨_,a8,a9,ba,rfl,aK,aL⟩:=ZFa p (Zk Y).2.1;obtain ⟨rfl,aM⟩:=aL;refine ov S rfl (ZT S rfl rfl ZI (Zk Y).1 (ltI (ZE p) (Zk Y).2.2.1)) fun f S=>ov S rfl (Zoa S rfl Z6 (S.view aK)) fun f S=>mw S rfl fun f S=>Zl ?_;obtain rfl:=Zg H;refine Zc (ad _ _ ⟨_,_,rfl,(leR _),(S.fr' rfl),aM⟩)
        have H:=Zy H M;refine ZF S rfl M (wp_skip ?_);obtain rfl:=Zg H;refine Zc (ad _ _ ⟨_,_,rfl,(leR _),(S.fr' rfl),(by decide)⟩)
      rintro f w ⟨J,L,hq,ae,S,aN⟩;subst hq;have H:=aJ;have F:=Zaa ae F;refine Zc (aG _ _ ?_);obtain ⟨o,Z,H⟩:=Zb H;obtain ⟨bb,v,H⟩:=Zb H;refine Zm (mv S rfl fun f S=>mv S rfl fun f S=>mv S rfl fun f S=>mv S rfl fun f S=>mv S rfl fun f S=>ov S rfl (Zkb S [.int .u64 (ac),.int .u64 (J),.int .u64 (t)] (ZVj Zhi aF aN Z) rfl rfl) fun f S=>mv S rfl fun f S=>ov S rfl (ZA S rfl rfl) fun f S=>ov S rfl (ZA S rfl rfl) fun f S=>?_);obtain ⟨aO,rfl⟩:=ZPb S (j:=0) rfl (Z5b G (Zk v).2.2.2);have af:=ZKa F (Zk v).2.1;obtain ⟨bc,aP⟩ : ∃ c,(List.take (Ze .u64).n (List.drop ((d).toNat * (Ze .u64).n) g)) = c:=⟨_,rfl⟩;rw [aP] at af;obtain ⟨rfl,bd⟩:=af;refine ov S rfl (ZT S rfl rfl ZI (Zk v).1 (ltI G (Zk v).2.2.1)) fun f S=>?_;obtain ⟨w,aQ,S⟩:=ZMb S Z6 (off:=0 + (d).toNat * 1) (z:=.int .u64 (o.1)) (cs:=[.int .u64 (o.1)]) (Zxb rfl) rfl (i:=0) rfl (ZKb S (j:=0) rfl (ltN G (Zk v).2.2.2)) (by first | rfl | simp [ZEa]);have aR : Rep.rels (Ze .u64) L (List.take (0 + (d).toNat * 1) g ++ [Value.int IntKind.u64 (o.1)] ++ List.drop (0 + (d).toNat * 1 + 1) g) (s.set (d).toNat o.1):=ZEb F (Zk v).2.2.2 (show Rep.rel (Ze .u64) L [.int .u64 (o.1)] _ from (Zv (ZBi Z))) rfl rfl
      have aS : h = (s.set (d).toNat o.1).length:=Zwb G;refine ZS wn rfl (aQ rfl rfl) (mw S rfl fun f S=>Zl (Zsa (Zc (az _ _ ?_))));obtain ⟨be,ag,H⟩:=Zb H;refine Zm (ov S rfl (Zi S rfl rfl (Zca ag)) fun f S=>mv S rfl fun f S=>Zl ?_);obtain rfl:=Zg H;refine aw _ rfl _ _ ⟨_,_,_,some aO,h,m,(List.take (0 + (d).toNat * 1) g ++ [Value.int IntKind.u64 (o.1)] ++ List.drop (0 + (d).toNat * 1 + 1) g),_,rfl,(leT P ae),(S.fr' rfl),aR,aS,(ZUj Z),(Zma ag).2⟩
    have H:=Zy H I;refine ZF S rfl I (wp_exit (ZZ ?_));obtain rfl:=Zg H;have hq:=ax _ rfl;subst hq;have H:=au;refine ZZ (ZBa ?_);obtain rfl:=Zg H;refine Zc (aq _ _ ⟨_,u,h,m,g,_,rfl,(leT (leR _) P),(S.fr' rfl),F,G⟩)
  rintro f w ⟨q,C,r,D,W,O,hq,bf,S,aT,aU⟩;subst hq;have H:=ap;refine Zc (am _ _ (Zh fun _ aV=>?_));obtain ⟨bg,aW,H⟩:=Zb H;refine Zm (mv S rfl fun f S=>?_);obtain ⟨bh,bi,S,aX⟩:=S.pubSlice (i:=0) (A:=(Ze .u64)) (l:=q) (ℓ':=[]) rfl rfl aU aT rfl;refine opc S rfl (Zo S [.slice (mkA C) (r) D] ZCc rfl rfl) (ZAc S.vin (show Rep.rel (ZK (Ze .u64)) _ [.slice (mkA C) (r) D] q from aX) aW) ?_;rintro _ bj f w bk ⟨bm,rfl,ah⟩ S;obtain ⟨aY,aZ,a0,rfl⟩:=ZU ah;refine mw S rfl fun f S=>Zl (Zc (aV _ _ (wp_ret ?_)));obtain rfl:=Zg H;refine ZC S (ZL rfl (ZD S rfl)) ⟨[.slice aY aZ a0],rfl,ah⟩
theorem Zwj {d : World} {c : Zd} (hv : VIn c d) {e : List Value} {a : Nat} (h : Rep.rel Zu c e a) {f : List Value} {b : Nat} (i : Rep.rel Zu c f b) {z : Nat} (hm : Z5d a b = some z) :
    Ret Try.prog 45 #[Zu.val e,Zu.val f] d c (fun y v'=>∃ g,y = Zu.val g ∧ Zu.rel v' g z) :=
  minus_w hv h i (Z4l hm)
theorem plus_w {p : World} {g : Zd} (hv : VIn g p) {c0 : List Value} {a : Nat} (p0 : Rep.rel Zu g c0 a) {c1 : List Value} {b : Nat} (p1 : Rep.rel Zu g c1 b) {z : Nat} (H : ZBf a b = some z) : Ret Try.prog 44 #[Zu.val c0,Zu.val c1] p g (fun y v'=>∃ r0,y = Zu.val r0 ∧ Zu.rel v' r0 z):=by
  obtain ⟨q1,n2,k3,rfl⟩:=ZU p0;obtain ⟨q4,n5,k6,rfl⟩:=ZU p1;refine ZV (K:=56) (args:=[.slice q1 n2 k3,.slice q4 n5 k6]) hv Try.func44 rfl rfl zl fun f S=>?_;unfold ZBf at H;refine sr (mw S rfl fun f S=>oe (Zh fun _ aE=>sr (mv S rfl fun f S=>ov S rfl (ZR S (ZE p0) rfl rfl ZI) fun f S=>mv S rfl fun f S=>ov S rfl (ZR S (ZE p1) rfl rfl ZI) fun f S=>ov S rfl (Zi S rfl rfl Zga) fun f S=>oe ?_)));obtain ⟨aF,aG,aH⟩:=Zb H;refine ZP (fun f w=>∃ (h : Nat) (aa : Nat) (ab : Option Addr) (F : Nat) (G : Nat) (I : Option Addr) (J : Nat) (L : Nat) (o : Zd),(h,aa) = aF ∧ Zd.le g o ∧ St 56 p g [(0,.slice ab F G),(1,.slice I J L)] [] o f w ∧ Rep.rel Zu o [.slice ab F G] h ∧ Rep.rel Zu o [.slice I J L] aa) (fun _ ao=>?_) ?_
  · have H:=aG;rcases Zx (decide ((((Zj 18446744073709551616 a)).length : Int) < (((Zj 18446744073709551616 b)).length : Int))) with M | M
    · have H:=Zw H M;refine ZH S rfl M (Zm (mv S rfl fun f S=>mv S rfl fun f S=>mw S rfl fun f S=>mw S rfl fun f S=>Zl ?_));obtain rfl:=Zg H;refine Zc (ao _ _ ⟨_,_,_,_,_,_,_,_,_,rfl,(leR _),(S.fr' rfl),p1,p0⟩)
    have H:=Zy H M;refine ZF S rfl M (wp_skip ?_);obtain rfl:=Zg H;refine Zc (ao _ _ ⟨_,_,_,_,_,_,_,_,_,rfl,(leR _),(S.fr' rfl),p0,p1⟩)
  rintro f w ⟨h,aa,ab,F,G,I,J,L,o,hq,bA,S,q,N⟩;subst hq;have H:=aH;refine Zc (aE _ _ (Zh fun _ aI=>?_));obtain ⟨ap,aJ,H⟩:=Zb H;obtain ⟨bB,ac,H⟩:=Zb H;refine Zm (mv S rfl fun f S=>ov S rfl (ZR S (ZE q) rfl rfl ZI) fun f S=>mv S rfl fun f S=>ov S rfl (ZR S (ZE q) rfl rfl ZI) fun f S=>ov S rfl (Zi S rfl rfl (Zca aJ)) fun f S=>?_);obtain ⟨aq,ar⟩ : ∃ c : List Value,c = (List.replicate ((((Zj 18446744073709551616 h)).length : Int)).toNat [.int .u64 ((0 : Int))]).flatten:=⟨_,rfl⟩;obtain ⟨aK,w,aL,S⟩:=Z3c ZRb S (l:=(((Zj 18446744073709551616 h)).length : Int)) (c:=ap) (Zna ac).1 (Zna ac).2.1 (Zna ac).2.2.1 (Zna ac).2.2.2 ar;have aM : Rep.rels (Ze .u64) o aq (List.replicate ((((Zj 18446744073709551616 h)).length : Int)).toNat ((0 : Int))):=by rw [ar];exact Zsc (show Rep.rel (Ze .u64) _ [.int .u64 ((0 : Int))] _ from (Zv (by decide))) _
  refine ZWa wn rfl zl (aL rfl rfl) S fun f S=>mw S rfl fun f S=>Zl (Zc (aI _ _ (sr (mw S rfl fun f S=>oe (Zh fun _ aN=>sr (mv S rfl fun f S=>ov S rfl (ZR S (ZE q) rfl rfl ZI) fun f S=>mv S rfl fun f S=>oe ?_))))));obtain ⟨aO,aP,aQ⟩:=Zb H;refine ZP (fun f w=>∃ (r : (List Int)) (d : Int) (ad : Option Nat) (O : Nat) (ae : Nat) (u : List Value) (v : Zd),(r,d) = aO ∧ Zd.le o v ∧ St 56 p g [(5,.slice (mkA ad) (O) ae),(6,.int .u64 (d))] [Loc.own ad 86 1 (O) ae u] v f w ∧ Rep.rels (Ze .u64) v u r ∧ O = r.length ∧ inR .u64 d) (fun _ aR=>?_) ?_
  · have H:=aP;refine wp_block ?_;obtain ⟨bC,aS,aT⟩:=Zb H;refine ZMa aS (fun aU f w=>∃ (B : (List Int)) (C : Int) (e : Int) (D : Option Nat) (m : Nat) (s : Nat) (k : List Value) (P : Zd),(B,C,e) = aU ∧ Zd.le o P ∧ St 56 p g [(1,.slice I J L),(5,.slice (mkA D) (m) s),(6,.int .u64 (C)),(23,.slice ab F G),(24,.int .i64 ((((Zj 18446744073709551616 h)).length : Int))),(25,.int .i64 (e))] [Loc.own D 86 1 (m) s k] P f w ∧ Rep.rels (Ze .u64) P k B ∧ m = B.length ∧ inR .u64 C ∧ inR .i64 e) ⟨_,_,_,some aK,((((Zj 18446744073709551616 h)).length : Int)).toNat,(ap).toNat,aq,_,rfl,(leR _),(S.fr' rfl),aM,(Zoc (x:=(0 : Int))),(by decide),(by decide)⟩ ?_;rintro _ f w st ⟨B,C,e,D,m,s,k,P,hq,af,S,Q,R,aV,bD⟩ H bE aW aX;subst hq;refine sr (ov S rfl (Zi S rfl rfl Zga) fun f S=>oe (Zh fun _ aY=>?_));rcases Zx (decide (e < (((Zj 18446744073709551616 h)).length : Int))) with T | T
    · have H:=Zw H T;refine ZH S rfl T (wp_skip (Zc (aY _ _ (Zh fun _ aZ=>wp_block (Zh fun _ a0=>?_)))));obtain ⟨au,aj,H⟩:=Zb H;refine Zm (mv S rfl fun f S=>?_);have q:=Zp af q;obtain ⟨_,a1,a2,bF,rfl,a3,a4⟩:=ZFa q (Zk aj).2.1;obtain ⟨rfl,a5⟩:=a4;refine ov S rfl (ZT S rfl rfl ZI (Zk aj).1 (ltI (ZE q) (Zk aj).2.2.1)) fun f S=>ov S rfl (Zoa S rfl Z6 (S.view a3)) fun f S=>mw S rfl fun f S=>mw S rfl fun f S=>Zl (Zc (a0 _ _ (sr (mw S rfl fun f S=>oe (Zh fun _ a6=>sr (mv S rfl fun f S=>mv S rfl fun f S=>?_))))));have N:=Zp af N;refine ov S rfl (ZR S (ZE N) rfl rfl ZI) fun f S=>ov S rfl (Zi S rfl rfl Zga) fun f S=>oe ?_;obtain ⟨a7,a8,a9⟩:=Zb H;refine ZP (fun f w=>∃ (U : Int) (V : Zd),U = a7 ∧ Zd.le P V ∧ St 56 p g [(1,.slice I J L),(5,.slice (mkA D) (m) s),(6,.int .u64 (C)),(7,.int .i64 (e)),(8,.int .u64 (au)),(9,.int .u64 (U)),(23,.slice (some ⟨a1,a2,none⟩) F G),(24,.int .i64 ((((Zj 18446744073709551616 h)).length : Int))),(25,.int .i64 (e))] [Loc.own D 86 1 (m) s k] V f w ∧ inR .u64 U) (fun _ av=>?_) ?_
      · have H:=a8;rcases Zx (decide (e < (((Zj 18446744073709551616 aa)).length : Int))) with W | W
        · have H:=Zw H W;refine ZH S rfl W ?_;obtain ⟨bG,ak,H⟩:=Zb H;refine Zm (mv S rfl fun f S=>mv S rfl fun f S=>?_);obtain ⟨_,bH,bI,bJ,rfl,ba,bb⟩:=ZFa N (Zk ak).2.1;obtain ⟨rfl,bc⟩:=bb;refine ov S rfl (ZT S rfl rfl ZI (Zk ak).1 (ltI (ZE N) (Zk ak).2.2.1)) fun f S=>ov S rfl (Zoa S rfl Z6 (S.view ba)) fun f S=>mw S rfl fun f S=>Zl ?_;obtain rfl:=Zg H;refine Zc (av _ _ ⟨_,_,rfl,(leR _),(S.fr' rfl),bc⟩)
        have H:=Zy H W;refine ZF S rfl W (wp_skip ?_);obtain rfl:=Zg H;refine Zc (av _ _ ⟨_,_,rfl,(leR _),(S.fr' rfl),(by decide)⟩)
      rintro f w ⟨U,V,hq,aw,S,bd⟩;subst hq;have H:=a9;have Q:=Zaa aw Q;refine Zc (a6 _ _ ?_);obtain ⟨t,al,H⟩:=Zb H;obtain ⟨bK,E,H⟩:=Zb H;refine Zm (mv S rfl fun f S=>mv S rfl fun f S=>mv S rfl fun f S=>mv S rfl fun f S=>mv S rfl fun f S=>ov S rfl (Zkb S [.int .u64 (au),.int .u64 (U),.int .u64 (C)] (Z5e ZHf al) rfl rfl) fun f S=>mv S rfl fun f S=>ov S rfl (ZA S rfl rfl) fun f S=>ov S rfl (ZA S rfl rfl) fun f S=>?_);obtain ⟨be,rfl⟩:=ZPb S (j:=0) rfl (Z5b R (Zk E).2.2.2);have ax:=ZKa Q (Zk E).2.1;obtain ⟨bL,bf⟩ : ∃ c,(List.take (Ze .u64).n (List.drop ((e).toNat * (Ze .u64).n) k)) = c:=⟨_,rfl⟩;rw [bf] at ax;obtain ⟨rfl,bM⟩:=ax;refine ov S rfl (ZT S rfl rfl ZI (Zk E).1 (ltI R (Zk E).2.2.1)) fun f S=>?_;obtain ⟨w,bg,S⟩:=ZMb S Z6 (off:=0 + (e).toNat * 1) (z:=.int .u64 (t.1)) (cs:=[.int .u64 (t.1)]) (Zxb rfl) rfl (i:=0) rfl (ZKb S (j:=0) rfl (ltN R (Zk E).2.2.2)) (by first | rfl | simp [ZEa]);have bh : Rep.rels (Ze .u64) V (List.take (0 + (e).toNat * 1) k ++ [Value.int IntKind.u64 (t.1)] ++ List.drop (0 + (e).toNat * 1 + 1) k) (B.set (e).toNat t.1):=ZEb Q (Zk E).2.2.2 (show Rep.rel (Ze .u64) V [.int .u64 (t.1)] _ from (Zv (Zjg al))) rfl rfl
      have bi : m = (B.set (e).toNat t.1).length:=Zwb R;refine ZS wn rfl (bg rfl rfl) (mw S rfl fun f S=>Zl (Zsa (Zc (aZ _ _ ?_))));obtain ⟨bN,ay,H⟩:=Zb H;refine Zm (ov S rfl (Zi S rfl rfl (Zca ay)) fun f S=>mv S rfl fun f S=>Zl ?_);obtain rfl:=Zg H;refine aW _ rfl _ _ ⟨_,_,_,some be,m,s,(List.take (0 + (e).toNat * 1) k ++ [Value.int IntKind.u64 (t.1)] ++ List.drop (0 + (e).toNat * 1 + 1) k),_,rfl,(leT af aw),(S.fr' rfl),bh,bi,(addW_hi a5 bd al),(Zma ay).2⟩
    have H:=Zy H T;refine ZF S rfl T (wp_exit (ZZ ?_));obtain rfl:=Zg H;have hq:=aX _ rfl;subst hq;have H:=aT;refine ZZ (ZBa ?_);obtain rfl:=Zg H;refine Zc (aR _ _ ⟨_,_,D,m,s,k,_,rfl,(leT (leR _) af),(S.fr' rfl),Q,R,aV⟩)
  rintro f w ⟨r,d,ad,O,ae,u,v,hq,bO,S,az,aA,bj⟩;subst hq;have H:=aQ;refine Zc (aN _ _ (Zh fun _ bk=>sr (mv S rfl fun f S=>ov S rfl (Zi S rfl rfl Zya) fun f S=>oe ?_)));obtain ⟨bm,bn,bo⟩:=Zb H;refine ZP (fun f w=>∃ (X : (List Int)) (ag : Option Nat) (Y : Nat) (ah : Nat) (am : List Value) (ai : Zd),X = bm ∧ Zd.le v ai ∧ St 56 p g [(5,.slice (mkA ag) (Y) ah)] [Loc.own ag 86 1 (Y) ah am] ai f w ∧ Rep.rels (Ze .u64) ai am X ∧ Y = X.length) (fun _ aB=>?_) ?_
  · have H:=bn;rcases Zx (decide ((0 : Int) < d)) with Z | Z
    · have H:=Zw H Z;refine ZH S rfl Z ?_;obtain ⟨bP,bp,H⟩:=Zb H;refine Zm (mv S rfl fun f S=>mv S rfl fun f S=>?_);obtain ⟨bQ,w,bq,S⟩:=Zhd S (n:=1) (cs:=[.int .u64 (d)]) (vals:=[(0,.int .u64 (d))]) (sz:=1) rfl (by decide) (Z0d ZRb (x:=.int .u64 (d)) (cs:=[.int .u64 (d)]) rfl rfl (by decide));have an : Rep.rels (Ze .u64) v [.int .u64 (d)] [d]:=(Zyc (Zv bj) Zyb);refine ZWa wn rfl zl (bq rfl) S fun f S=>?_;have br:=S;obtain ⟨aC,aD,w,bs,S⟩:=ZTd (ty:=33) ZRb S (i:=1) (n':=(r ++ [d]).length) rfl (Zrc an rfl) (ZWe S (j:=0) rfl) (Zwe an) (appN aA rfl) (Zdf bp) (by decide);have bt:=Zmc az an;refine ZWa wn rfl zl (ZGf br rfl rfl bs) S fun f S=>mw S rfl fun f S=>Zl ?_;obtain rfl:=Zg H;have S:=S.reorder (ℓ':=[Loc.own aC 86 1 ((r ++ [d]).length) aD ((u ++ [.int .u64 (d)]))]) [1] rfl (by decide);refine Zc (aB _ _ ⟨_,aC,(r ++ [d]).length,aD,(u ++ [.int .u64 (d)]),_,rfl,(leR _),(S.fr' rfl),bt,rfl⟩)
    have H:=Zy H Z;refine ZF S rfl Z (wp_skip ?_);obtain rfl:=Zg H;refine Zc (aB _ _ ⟨_,ad,O,ae,u,_,rfl,(leR _),(S.fr' rfl),az,aA⟩)
  rintro f w ⟨X,ag,Y,ah,am,ai,hq,bR,S,bu,bv⟩;subst hq;have H:=bo;refine Zc (bk _ _ (sr (mv S rfl fun f S=>mw S rfl fun f S=>oe (wp_ret ?_))));obtain ⟨bS,bw,H⟩:=Zb H;obtain ⟨bT,bU,S,bx⟩:=S.pubSlice (i:=0) (A:=(Ze .u64)) (l:=X) (ℓ':=[]) rfl rfl bv bu rfl;have bz:=clo_rel bx bw;obtain rfl:=Zg H;refine ZC S (ZL rfl (ZD S rfl)) ⟨[.slice (mkA ag) (Y) ah],rfl,bz⟩
theorem plus_c {d : World} {c : Zd} (hv : VIn c d) {e : List Value} {a : Nat} (h : Rep.rel Zu c e a) {f : List Value} {b : Nat} (i : Rep.rel Zu c f b) {z : Nat} (hm : Zcf a b = some z) :
    Ret Try.prog 44 #[Zu.val e,Zu.val f] d c (fun y v'=>∃ g,y = Zu.val g ∧ Zu.rel v' g z) :=
  plus_w hv h i (ZQm hm)
theorem iplus_w {E : World} {m : Zd} (hv : VIn m E) {G : List Value} {x : Int} (I : Rep.rel ZW m G x) {J : List Value} {y : Int} (L : Rep.rel ZW m J y) {z : Int} (H : Zgg x y = some z) : Ret Try.prog 22 #[ZW.val G,ZW.val J] E m (fun y v'=>∃ M,y = ZW.val M ∧ ZW.rel v' M z):=by
  obtain ⟨N,c,d,e,rfl⟩:=Zwa I;obtain ⟨P,g,h,j,rfl⟩:=Zwa L;refine ZV (K:=40) (args:=[.agg #[.bool N,.slice c d e],.agg #[.bool P,.slice g h j]]) hv Try.func22 rfl rfl zl fun f S=>?_;unfold Zgg at H;refine sr (ob S rfl (cs:=[.bool N,.slice c d e]) rfl fun aA f w S=>ob S rfl (cs:=[.bool P,.slice g h j]) rfl fun aB f w S=>ZY S wn rfl zl (cs:=[.bool false,.slice none 0 0]) (ZN Zfc) fun aC f w S=>oe (Zh fun _ X=>sr (ov S rfl (Zq S rfl ZIa) fun f S=>?_)));obtain ⟨rfl,a⟩:=Z2a I;refine ov S rfl (lo S rfl ZHa 2 rfl rfl) fun f S=>ov S rfl (Zq S rfl ZIa) fun f S=>?_;obtain ⟨rfl,b⟩:=Z2a L;refine ov S rfl (lo S rfl ZHa 1 rfl rfl) fun f S=>ov S rfl (Ztc S rfl rfl (Z5g _ _)) fun f S=>oe ?_;rcases Zx ((decide (x < 0)) == (decide (y < 0))) with k | k
  · have H:=Zw H k;refine ZH S rfl k (Zh fun _ Y=>?_);obtain ⟨aD,Z,H⟩:=Zb H;obtain ⟨aE,aa,H⟩:=Zb H;refine Zia (fl:=#[true,true,true,true,true,true,false,false,false]) Zja (by kernel_rfl) S ?_;intro ops O F w S;refine rfa O F 0 rfl rfl S (Zq S rfl ZIa) fun f S=>rfa O F 1 rfl rfl S (lo S rfl ZHa 2 rfl rfl) fun f S=>rfa O F 2 rfl rfl S (Zq S rfl ZGa) fun f S=>rfa O F 3 rfl rfl S (lo S rfl Z3 2 rfl rfl) fun f S=>rfa O F 4 rfl rfl S (Zq S rfl ZGa) fun f S=>rfa O F 5 rfl rfl S (lo S rfl Z3 1 rfl rfl) fun f S=>go1 O F 6 (nxc [3,5,2,4] [0,1] O rfl S rfl (Zo S [.slice c d e,.slice g h j] k_en44 rfl rfl) (plus_c S.vin a b Z) ?_);rintro _ aF f w aG ⟨aH,rfl,Q⟩ S;obtain ⟨ab,ac,ad,rfl⟩:=ZU Q;refine ⟨(py S rfl rfl (Zq S rfl ZIa) (py S rfl rfl (lo S rfl ZHa 2 rfl rfl) Zr)),go1 O F 7 (nxc [1,6,0,3,5,2,4] [] O rfl S rfl (Zo S [.bool (decide (x < 0)),.slice ab ac ad] ZWc rfl rfl) (Z8c S.vin (show Rep.rel Zha _ [.bool (decide (x < 0))] (decide (x < 0)) from ZUa) Q aa) ?_)⟩;rintro _ aI f w aJ ⟨aK,rfl,R⟩ S;obtain ⟨o,p,q,r,rfl⟩:=Zwa R;refine ⟨Zr,go1 O F 8 ?_⟩;obtain ⟨w,ae,S⟩:=sbp S [.bool o,.slice p q r] Zfa 0 0 rfl;refine nxs [0,1,2,3,4,5,6,7] [] O rfl rfl (ae rfl rfl) (⟨Zr,Z1 O F (Zc (Y _ _ (wp_ret (ZM ?_))))⟩)
    obtain rfl:=Zg H;refine ZC S (ZL rfl (ZJb S rfl Zfa rfl (S.box (i:=0) rfl 0 [.bool o,.slice p q r] rfl))) ⟨[.bool o,.slice p q r],rfl,R⟩
  have H:=Zy H k;refine ZF S rfl k (wp_skip (Zc (X _ _ (Zh fun _ af=>Zh fun _ ag=>?_))));obtain ⟨ah,ai,H⟩:=Zb H;refine Zm (ov S rfl (Zq S rfl ZGa) fun f S=>ov S rfl (lo S rfl Z3 2 rfl rfl) fun f S=>ov S rfl (Zq S rfl ZGa) fun f S=>ov S rfl (lo S rfl Z3 1 rfl rfl) fun f S=>opc S rfl (Zo S [.slice c d e,.slice g h j] Zge rfl rfl) (Zde S.vin a b ai) ?_);rintro _ aL f w n ⟨aM,rfl,aj⟩ S;obtain ⟨rfl,aN⟩:=aj;refine ov S rfl (Zi S rfl rfl Zcb) fun f S=>Zl (Zc (ag _ _ ?_));rcases Zx (decide ((0 : Int) ≤ ah)) with l | l
  · have H:=Zw H l;refine ZH S rfl l (Zh fun _ ak=>?_);obtain ⟨aO,al,H⟩:=Zb H;obtain ⟨aP,am,H⟩:=Zb H;refine Zia (fl:=#[true,true,true,true,true,true,false,false,false]) Zja (by kernel_rfl) S ?_;intro ops O F w S;refine rfa O F 0 rfl rfl S (Zq S rfl ZIa) fun f S=>rfa O F 1 rfl rfl S (lo S rfl ZHa 2 rfl rfl) fun f S=>rfa O F 2 rfl rfl S (Zq S rfl ZGa) fun f S=>rfa O F 3 rfl rfl S (lo S rfl Z3 2 rfl rfl) fun f S=>rfa O F 4 rfl rfl S (Zq S rfl ZGa) fun f S=>rfa O F 5 rfl rfl S (lo S rfl Z3 1 rfl rfl) fun f S=>go1 O F 6 ?_;have a:=Zp n a;have b:=Zp n b;refine nxc [3,5,2,4] [0,1] O rfl S rfl (Zo S [.slice c d e,.slice g h j] ZWi rfl rfl) (Zwj S.vin a b al) ?_;rintro _ aQ f w aR ⟨aS,rfl,T⟩ S;obtain ⟨an,ao,ap,rfl⟩:=ZU T;refine ⟨(py S rfl rfl (Zq S rfl ZIa) (py S rfl rfl (lo S rfl ZHa 2 rfl rfl) Zr)),go1 O F 7 (nxc [1,6,0,3,5,2,4] [] O rfl S rfl (Zo S [.bool (decide (x < 0)),.slice an ao ap] ZWc rfl rfl) (Z8c S.vin (show Rep.rel Zha _ [.bool (decide (x < 0))] (decide (x < 0)) from ZUa) T am) ?_)⟩;rintro _ aT f w aU ⟨aV,rfl,U⟩ S;obtain ⟨s,t,u,v,rfl⟩:=Zwa U;refine ⟨Zr,go1 O F 8 ?_⟩;obtain ⟨w,aq,S⟩:=sbp S [.bool s,.slice t u v] Zfa 0 0 rfl
    refine nxs [0,1,2,3,4,5,6,7] [] O rfl rfl (aq rfl rfl) (⟨Zr,Z1 O F (Zc (ak _ _ (wp_ret (ZM ?_))))⟩);obtain rfl:=Zg H;refine ZC S (ZL rfl (ZJb S rfl Zfa rfl (S.box (i:=0) rfl 0 [.bool s,.slice t u v] rfl))) ⟨[.bool s,.slice t u v],rfl,U⟩
  have H:=Zy H l;refine ZF S rfl l (wp_skip (Zc (af _ _ (Zh fun _ ar=>?_))));obtain ⟨aW,au,H⟩:=Zb H;obtain ⟨aX,av,H⟩:=Zb H;refine Zia (fl:=#[true,true,true,true,true,true,false,false,false]) Zja (by kernel_rfl) S ?_;intro ops O F w S;refine rfa O F 0 rfl rfl S (Zq S rfl ZIa) fun f S=>rfa O F 1 rfl rfl S (lo S rfl ZHa 1 rfl rfl) fun f S=>rfa O F 2 rfl rfl S (Zq S rfl ZGa) fun f S=>rfa O F 3 rfl rfl S (lo S rfl Z3 1 rfl rfl) fun f S=>rfa O F 4 rfl rfl S (Zq S rfl ZGa) fun f S=>rfa O F 5 rfl rfl S (lo S rfl Z3 2 rfl rfl) fun f S=>go1 O F 6 ?_;have b:=Zp n b;have a:=Zp n a;refine nxc [3,5,2,4] [0,1] O rfl S rfl (Zo S [.slice g h j,.slice c d e] ZWi rfl rfl) (Zwj S.vin b a au) ?_;rintro _ aY f w aZ ⟨a0,rfl,V⟩ S;obtain ⟨aw,ax,ay,rfl⟩:=ZU V;refine ⟨(py S rfl rfl (Zq S rfl ZIa) (py S rfl rfl (lo S rfl ZHa 1 rfl rfl) Zr)),go1 O F 7 (nxc [1,6,0,3,5,2,4] [] O rfl S rfl (Zo S [.bool (decide (y < 0)),.slice aw ax ay] ZWc rfl rfl) (Z8c S.vin (show Rep.rel Zha _ [.bool (decide (y < 0))] (decide (y < 0)) from ZUa) V av) ?_)⟩;rintro _ a1 f w a2 ⟨a3,rfl,W⟩ S;obtain ⟨A,B,C,D,rfl⟩:=Zwa W;refine ⟨Zr,go1 O F 8 ?_⟩;obtain ⟨w,az,S⟩:=sbp S [.bool A,.slice B C D] Zfa 0 0 rfl
  refine nxs [0,1,2,3,4,5,6,7] [] O rfl rfl (az rfl rfl) (⟨Zr,Z1 O F (Zc (ar _ _ (wp_ret ?_)))⟩);obtain rfl:=Zg H;refine ZC S (ZL rfl (ZJb S rfl Zfa rfl (S.box (i:=0) rfl 0 [.bool A,.slice B C D] rfl))) ⟨[.bool A,.slice B C D],rfl,W⟩
theorem iplus_c {b : World} {a : Zd} (hv : VIn a b) {c : List Value} {x : Int} (f : Rep.rel ZW a c x) {d : List Value} {y : Int} (g : Rep.rel ZW a d y) {z : Int} (hm : Z3e x y = some z) :
    Ret Try.prog 22 #[ZW.val c,ZW.val d] b a (fun y v'=>∃ e,y = ZW.val e ∧ ZW.rel v' e z) :=
  iplus_w hv f g (ZRm hm)
theorem times_w {G : World} {q : Zd} (hv : VIn q G) {c0 : List Value} {a : Nat} (e : Rep.rel Zu q c0 a) {c1 : List Value} {b : Nat} (d : Rep.rel Zu q c1 b) {z : Nat} (H : ZCf a b = some z) : Ret Try.prog 23 #[Zu.val c0,Zu.val c1] G q (fun y v'=>∃ r0,y = Zu.val r0 ∧ Zu.rel v' r0 z):=by
  obtain ⟨q1,r,s,rfl⟩:=ZU e;obtain ⟨C,h,k,rfl⟩:=ZU d;refine ZV (K:=86) (args:=[.slice q1 r s,.slice C h k]) hv Try.func23 rfl rfl zl fun f S=>?_;unfold ZCf at H;refine sr (mw S rfl fun f S=>oe (Zh fun _ aZ=>Zh fun _ a0=>?_));obtain ⟨a1,a2,H⟩:=Zb H;refine Zm (mv S rfl fun f S=>opc S rfl (Zo S [.slice q1 r s] ZUg rfl rfl) (Zhh S.vin e a2) ?_);rintro _ ch f w ai ⟨ci,rfl,a3⟩ S;obtain rfl:=a3;refine Zl (Zc (a0 _ _ ?_));rcases Zx (a1) with X | X
  · have H:=Zw H X;refine ZH S rfl X (sr (mv S rfl fun f S=>mw S rfl fun f S=>oe (wp_ret (ZM ?_))));obtain rfl:=Zg H;have d:=Zp ai d;refine ZC S (ZL rfl (ZD S rfl)) ⟨[.slice C h k],rfl,d⟩
  have H:=Zy H X;refine ZF S rfl X (wp_skip (Zc (aZ _ _ (Zh fun _ a4=>Zh fun _ a5=>?_))));obtain ⟨a6,a7,H⟩:=Zb H;refine Zm (mv S rfl fun f S=>?_);have d:=Zp ai d;refine opc S rfl (Zo S [.slice C h k] ZUg rfl rfl) (Zhh S.vin d a7) ?_;rintro _ ay f w az ⟨cj,rfl,a8⟩ S;obtain rfl:=a8;refine Zl (Zc (a5 _ _ ?_));rcases Zx (a6) with Y | Y
  · have H:=Zw H Y;refine ZH S rfl Y (sr (mv S rfl fun f S=>mw S rfl fun f S=>oe (wp_ret (ZM ?_))));obtain rfl:=Zg H;have e:=Zp (leT ai az) e;refine ZC S (ZL rfl (ZD S rfl)) ⟨[.slice q1 r s],rfl,e⟩
  have H:=Zy H Y;refine ZF S rfl Y (wp_skip (Zc (a4 _ _ (Zh fun _ a9=>?_))));obtain ⟨I,ba,H⟩:=Zb H;obtain ⟨ck,aj,H⟩:=Zb H;refine Zm (mv S rfl fun f S=>?_);have e:=Zp (leT ai az) e;refine ov S rfl (ZR S (ZE e) rfl rfl ZI) fun f S=>mv S rfl fun f S=>?_;have d:=Zp az d;refine ov S rfl (ZR S (ZE d) rfl rfl ZI) fun f S=>ov S rfl (Zi S rfl rfl (Zca ba)) fun f S=>?_;obtain ⟨aI,aJ⟩ : ∃ c : List Value,c = (List.replicate (I).toNat [.int .u64 ((0 : Int))]).flatten:=⟨_,rfl⟩;obtain ⟨bb,w,bc,S⟩:=Z3c ZRb S (l:=I) (c:=I) (Zna aj).1 (Zna aj).2.1 (Zna aj).2.2.1 (Zna aj).2.2.2 aJ;have bd : Rep.rels (Ze .u64) ay aI (List.replicate (I).toNat ((0 : Int))):=by rw [aJ];exact Zsc (show Rep.rel (Ze .u64) _ [.int .u64 ((0 : Int))] _ from (Zv (by decide))) _
  refine ZWa wn rfl zl (bc rfl rfl) S fun f S=>mw S rfl fun f S=>Zl (Zc (a9 _ _ (Zh fun _ be=>sr (mv S rfl fun f S=>ov S rfl (ZR S (ZE e) rfl rfl ZI) fun f S=>mv S rfl fun f S=>oe ?_))));obtain ⟨bf,bg,bh⟩:=Zb H;refine ZP (fun f w=>∃ (J : (List Int)) (Z : Option Nat) (L : Nat) (aa : Nat) (aA : List Value) (ak : Zd),J = bf ∧ Zd.le ay ak ∧ St 86 G q [(5,.slice (mkA Z) (L) aa)] [Loc.own Z 86 1 (L) aa aA] ak f w ∧ Rep.rels (Ze .u64) ak aA J ∧ L = J.length) (fun _ bi=>?_) ?_
  · have H:=bg;refine wp_block ?_;obtain ⟨cl,bj,bk⟩:=Zb H;refine ZMa bj (fun bm f w=>∃ (al : (List Int)) (g : Int) (ab : Option Nat) (M : Nat) (ac : Nat) (ad : List Value) (N : Zd),(al,g) = bm ∧ Zd.le ay N ∧ St 86 G q [(1,.slice C h k),(5,.slice (mkA ab) (M) ac),(26,.slice q1 r s),(27,.int .i64 ((((Zj 18446744073709551616 a)).length : Int))),(28,.int .i64 (g))] [Loc.own ab 86 1 (M) ac ad] N f w ∧ Rep.rels (Ze .u64) N ad al ∧ M = al.length ∧ inR .i64 g) ⟨_,_,some bb,(I).toNat,(I).toNat,aI,_,rfl,(leR _),(S.fr' rfl),bd,(Zoc (x:=(0 : Int))),(by decide)⟩ ?_;rintro _ f w st ⟨al,g,ab,M,ac,ad,N,hq,am,S,aK,aL,cm⟩ H cn bn bo;subst hq;refine sr (ov S rfl (Zi S rfl rfl Zga) fun f S=>oe (Zh fun _ bp=>?_));rcases Zx (decide (g < (((Zj 18446744073709551616 a)).length : Int))) with ae | ae
    · have H:=Zw H ae;refine ZH S rfl ae (wp_skip (Zc (bp _ _ (Zh fun _ bq=>wp_block (Zh fun _ br=>?_)))));obtain ⟨O,aB,H⟩:=Zb H;refine Zm (mv S rfl fun f S=>?_);have e:=Zp am e;obtain ⟨_,an,ao,co,rfl,bs,bt⟩:=ZFa e (Zk aB).2.1;obtain ⟨rfl,bu⟩:=bt;refine ov S rfl (ZT S rfl rfl ZI (Zk aB).1 (ltI (ZE e) (Zk aB).2.2.1)) fun f S=>ov S rfl (Zoa S rfl Z6 (S.view bs)) fun f S=>mw S rfl fun f S=>mw S rfl fun f S=>Zl (Zc (br _ _ (sr (mw S rfl fun f S=>oe (Zh fun _ bv=>sr (mv S rfl fun f S=>?_))))));have d:=Zp am d;refine ov S rfl (ZR S (ZE d) rfl rfl ZI) fun f S=>mv S rfl fun f S=>oe ?_;obtain ⟨bw,bx,bz⟩:=Zb H;refine ZP (fun f w=>∃ (P : (List Int)) (m : Int) (aC : Option Nat) (Q : Nat) (ap : Nat) (t : List Value) (R : Zd),(P,m) = bw ∧ Zd.le N R ∧ St 86 G q [(1,.slice C h k),(5,.slice (mkA aC) (Q) ap),(6,.int .i64 (g)),(8,.int .u64 (m)),(26,.slice (some ⟨an,ao,none⟩) r s),(27,.int .i64 ((((Zj 18446744073709551616 a)).length : Int))),(28,.int .i64 (g))] [Loc.own aC 86 1 (Q) ap t] R f w ∧ Rep.rels (Ze .u64) R t P ∧ Q = P.length ∧ inR .u64 m) (fun _ bA=>?_) ?_
      · have H:=bx;refine wp_block ?_;obtain ⟨cp,bB,bC⟩:=Zb H;refine ZMa bB (fun bD f w=>∃ (T : (List Int)) (U : Int) (D : Int) (aq : Option Nat) (p : Nat) (E : Nat) (o : List Value) (ar : Zd),(T,U,D) = bD ∧ Zd.le N ar ∧ St 86 G q [(1,.slice C h k),(5,.slice (mkA aq) (p) E),(6,.int .i64 (g)),(7,.int .u64 (O)),(8,.int .u64 (U)),(26,.slice (some ⟨an,ao,none⟩) r s),(27,.int .i64 ((((Zj 18446744073709551616 a)).length : Int))),(28,.int .i64 (g)),(33,.slice C h k),(34,.int .i64 ((((Zj 18446744073709551616 b)).length : Int))),(35,.int .i64 (D))] [Loc.own aq 86 1 (p) E o] ar f w ∧ Rep.rels (Ze .u64) ar o T ∧ p = T.length ∧ inR .u64 U ∧ inR .i64 D) ⟨_,_,_,ab,M,ac,ad,_,rfl,(leR _),(S.fr' rfl),aK,aL,(by decide),(by decide)⟩ ?_;rintro _ f w st ⟨T,U,D,aq,p,E,o,ar,hq,aD,S,V,F,bE,cq⟩ H cr bF bG;subst hq;refine sr (ov S rfl (Zi S rfl rfl Zga) fun f S=>oe (Zh fun _ bH=>?_));rcases Zx (decide (D < (((Zj 18446744073709551616 b)).length : Int))) with af | af
        · have H:=Zw H af;refine ZH S rfl af (wp_skip (Zc (bH _ _ (Zh fun _ bI=>wp_block (Zh fun _ bJ=>?_)))));obtain ⟨aE,aF,H⟩:=Zb H;refine Zm (mv S rfl fun f S=>?_);have d:=Zp aD d;obtain ⟨_,au,av,ct,rfl,bK,bL⟩:=ZFa d (Zk aF).2.1;obtain ⟨rfl,bM⟩:=bL;refine ov S rfl (ZT S rfl rfl ZI (Zk aF).1 (ltI (ZE d) (Zk aF).2.2.1)) fun f S=>ov S rfl (Zoa S rfl Z6 (S.view bK)) fun f S=>mw S rfl fun f S=>mw S rfl fun f S=>Zl (Zc (bJ _ _ (Zh fun _ bN=>?_)));obtain ⟨aG,bO,H⟩:=Zb H;refine Zm (mv S rfl fun f S=>mv S rfl fun f S=>opc S rfl (Zo S [.int .u64 (O),.int .u64 (aE)] Zph rfl rfl) (ZPh S.vin (show Rep.rel (Ze .u64) _ [.int .u64 (O)] O from (Zv bu)) (show Rep.rel (Ze .u64) _ [.int .u64 (aE)] aE from (Zv bM)) bO) ?_);rintro _ aM f w aN ⟨cu,cv,rfl,bP,bQ⟩ S;have V:=Zaa aN V;obtain ⟨rfl,cw⟩:=bP;obtain ⟨rfl,cx⟩:=bQ;refine mv S rfl fun f S=>ov S rfl (ZA S rfl rfl) fun f S=>ov S rfl (ZA S rfl rfl) fun f S=>mw S rfl fun f S=>mw S rfl fun f S=>Zl (Zc (bN _ _ (Zh fun _ bR=>?_)));obtain ⟨bS,bT,H⟩:=Zb H;obtain ⟨aO,ag,H⟩:=Zb H;obtain ⟨aw,bU,H⟩:=Zb H;refine Zm (mv S rfl fun f S=>mv S rfl fun f S=>mv S rfl fun f S=>mv S rfl fun f S=>ov S rfl (Zi S rfl rfl (Zca bT)) fun f S=>?_)
          obtain ⟨aH,rfl⟩:=ZPb S (j:=0) rfl (Z5b F (Zk ag).2.2.2);have aP:=ZKa V (Zk ag).2.1;obtain ⟨cy,aQ⟩ : ∃ c,(List.take (Ze .u64).n (List.drop ((bS).toNat * (Ze .u64).n) o)) = c:=⟨_,rfl⟩;rw [aQ] at aP;obtain ⟨rfl,cz⟩:=aP;refine ov S rfl (ZT S rfl rfl ZI (Zk ag).1 (ltI F (Zk ag).2.2.1)) fun f S=>ov S rfl (Zoa S rfl Z6 (Zpe S (j:=0) rfl aQ (ltN F (Zk ag).2.2.2) 0 [.int .u64 (aO)] rfl zl)) fun f S=>ov S rfl (Zkb S [.int .u64 (aG.2),.int .u64 (aO),.int .u64 ((0 : Int))] (Z5e ZHf bU) rfl rfl) fun f S=>mv S rfl fun f S=>ov S rfl (ZA S rfl rfl) fun f S=>ov S rfl (ZA S rfl rfl) fun f S=>mw S rfl fun f S=>mw S rfl fun f S=>Zl ?_;have S:=S.fr' (σ':=[(1,.slice (some ⟨au,av,none⟩) h k),(5,.slice (mkA (some aH)) (p) E),(6,.int .i64 (g)),(7,.int .u64 (O)),(8,.int .u64 (U)),(9,.int .i64 (D)),(11,.int .u64 (aG.1)),(12,.int .u64 (aw.1)),(13,.int .u64 (aw.2)),(26,.slice (some ⟨an,ao,none⟩) r s),(27,.int .i64 ((((Zj 18446744073709551616 a)).length : Int))),(28,.int .i64 (g)),(33,.slice (some ⟨au,av,none⟩) h k),(34,.int .i64 ((((Zj 18446744073709551616 b)).length : Int))),(35,.int .i64 (D))]) rfl;refine Zc (bR _ _ (sr (mv S rfl fun f S=>mv S rfl fun f S=>ov S rfl (Zi S rfl rfl Zzb) fun f S=>mw S rfl fun f S=>oe (Zh fun _ bV=>?_))))
          obtain ⟨u,aR,H⟩:=Zb H;refine Zm (mv S rfl fun f S=>mv S rfl fun f S=>ov S rfl (Zkb S [.int .u64 (aw.1),.int .u64 (U),.int .u64 ((0 : Int))] (Z5e ZHf aR) rfl rfl) fun f S=>mv S rfl fun f S=>ov S rfl (ZA S rfl rfl) fun f S=>ov S rfl (ZA S rfl rfl) fun f S=>mw S rfl fun f S=>mw S rfl fun f S=>Zl (Zc (bV _ _ ?_)));obtain ⟨v,bW,H⟩:=Zb H;obtain ⟨cA,ah,H⟩:=Zb H;refine Zm (mv S rfl fun f S=>mv S rfl fun f S=>mv S rfl fun f S=>ov S rfl (Zi S rfl rfl (Zca bW)) fun f S=>mv S rfl fun f S=>mv S rfl fun f S=>mv S rfl fun f S=>ov S rfl (Zi S rfl rfl Zzb) fun f S=>?_);have aS:=ZKa V (Zk ah).2.1;obtain ⟨cB,bX⟩ : ∃ c,(List.take (Ze .u64).n (List.drop ((v).toNat * (Ze .u64).n) o)) = c:=⟨_,rfl⟩;rw [bX] at aS;obtain ⟨rfl,cD⟩:=aS;refine ov S rfl (ZT S rfl rfl ZI (Zk ah).1 (ltI F (Zk ah).2.2.1)) fun f S=>?_;obtain ⟨w,bY,S⟩:=ZMb S Z6 (off:=0 + (v).toNat * 1) (z:=.int .u64 (u.1)) (cs:=[.int .u64 (u.1)]) (Zxb rfl) rfl (i:=0) rfl (ZKb S (j:=0) rfl (ltN F (Zk ah).2.2.2)) (by first | rfl | simp [ZEa]);have bZ : Rep.rels (Ze .u64) aM (List.take (0 + (v).toNat * 1) o ++ [Value.int IntKind.u64 (u.1)] ++ List.drop (0 + (v).toNat * 1 + 1) o) (T.set (v).toNat u.1):=ZEb V (Zk ah).2.2.2 (show Rep.rel (Ze .u64) aM [.int .u64 (u.1)] _ from (Zv (Zjg aR))) rfl rfl
          have b0 : p = (T.set (v).toNat u.1).length:=Zwb F;refine ZS wn rfl (bY rfl rfl) (mw S rfl fun f S=>Zl (Zsa (Zc (bI _ _ ?_))));obtain ⟨b1,aT,H⟩:=Zb H;refine Zm (ov S rfl (Zi S rfl rfl (Zca aT)) fun f S=>mv S rfl fun f S=>Zl ?_);have S:=S.fr' (σ':=[(1,.slice (some ⟨au,av,none⟩) h k),(5,.slice (mkA (some aH)) (p) E),(6,.int .i64 (g)),(7,.int .u64 (O)),(8,.int .u64 (IntKind.u64.wrap ((IntKind.u64.wrap (aG.1 + aw.2)) + u.2))),(26,.slice (some ⟨an,ao,none⟩) r s),(27,.int .i64 ((((Zj 18446744073709551616 a)).length : Int))),(28,.int .i64 (g)),(33,.slice (some ⟨au,av,none⟩) h k),(34,.int .i64 ((((Zj 18446744073709551616 b)).length : Int))),(35,.int .i64 (b1))]) rfl;obtain rfl:=Zg H;refine bF _ rfl _ _ ⟨_,_,_,some aH,p,E,(List.take (0 + (v).toNat * 1) o ++ [Value.int IntKind.u64 (u.1)] ++ List.drop (0 + (v).toNat * 1 + 1) o),_,rfl,(leT aD aN),(S.fr' rfl),bZ,b0,(ZPa _ _),(Zma aT).2⟩
        have H:=Zy H af;refine ZF S rfl af (wp_exit (ZZ ?_));obtain rfl:=Zg H;have hq:=bG _ rfl;subst hq;have H:=bC;refine ZZ (ZBa ?_);obtain rfl:=Zg H;refine Zc (bA _ _ ⟨_,_,aq,p,E,o,_,rfl,(leT (leR _) aD),(S.fr' rfl),V,F,bE⟩)
      rintro f w ⟨P,m,aC,Q,ap,t,R,hq,aU,S,aV,ax,b2⟩;subst hq;have H:=bz;refine Zc (bv _ _ ?_);obtain ⟨B,b3,H⟩:=Zb H;obtain ⟨cE,W,H⟩:=Zb H;refine Zm (mv S rfl fun f S=>mv S rfl fun f S=>mv S rfl fun f S=>?_);have d:=Zp aU d;refine ov S rfl (ZR S (ZE d) rfl rfl ZI) fun f S=>ov S rfl (Zi S rfl rfl (Zca b3)) fun f S=>mv S rfl fun f S=>?_;obtain ⟨b4,rfl⟩:=ZPb S (j:=0) rfl (Z5b ax (Zk W).2.2.2);have aW:=ZKa aV (Zk W).2.1;obtain ⟨cF,b5⟩ : ∃ c,(List.take (Ze .u64).n (List.drop ((B).toNat * (Ze .u64).n) t)) = c:=⟨_,rfl⟩;rw [b5] at aW;obtain ⟨rfl,cG⟩:=aW;refine ov S rfl (ZT S rfl rfl ZI (Zk W).1 (ltI ax (Zk W).2.2.1)) fun f S=>?_;obtain ⟨w,b6,S⟩:=ZMb S Z6 (off:=0 + (B).toNat * 1) (z:=.int .u64 (m)) (cs:=[.int .u64 (m)]) (Zxb rfl) rfl (i:=0) rfl (ZKb S (j:=0) rfl (ltN ax (Zk W).2.2.2)) (by first | rfl | simp [ZEa]);have b7 : Rep.rels (Ze .u64) R (List.take (0 + (B).toNat * 1) t ++ [Value.int IntKind.u64 (m)] ++ List.drop (0 + (B).toNat * 1 + 1) t) (P.set (B).toNat m):=ZEb aV (Zk W).2.2.2 (show Rep.rel (Ze .u64) R [.int .u64 (m)] _ from (Zv b2)) rfl rfl;have b8 : Q = (P.set (B).toNat m).length:=Zwb ax
      refine ZS wn rfl (b6 rfl rfl) (Zl (Zsa (Zc (bq _ _ ?_))));obtain ⟨cH,aX,H⟩:=Zb H;refine Zm (ov S rfl (Zi S rfl rfl (Zca aX)) fun f S=>mv S rfl fun f S=>Zl ?_);obtain rfl:=Zg H;refine bn _ rfl _ _ ⟨_,_,some b4,Q,ap,(List.take (0 + (B).toNat * 1) t ++ [Value.int IntKind.u64 (m)] ++ List.drop (0 + (B).toNat * 1 + 1) t),_,rfl,(leT am aU),(S.fr' rfl),b7,b8,(Zma aX).2⟩
    have H:=Zy H ae;refine ZF S rfl ae (wp_exit (ZZ ?_));obtain rfl:=Zg H;have hq:=bo _ rfl;subst hq;have H:=bk;refine ZZ (ZBa ?_);obtain rfl:=Zg H;refine Zc (bi _ _ ⟨_,ab,M,ac,ad,_,rfl,(leT (leR _) am),(S.fr' rfl),aK,aL⟩)
  rintro f w ⟨J,Z,L,aa,aA,ak,hq,cI,S,b9,ca⟩;subst hq;have H:=bh;refine Zc (be _ _ (Zh fun _ cb=>?_));obtain ⟨cJ,cc,H⟩:=Zb H;refine Zm (mv S rfl fun f S=>?_);obtain ⟨cK,cL,S,cd⟩:=S.pubSlice (i:=0) (A:=(Ze .u64)) (l:=J) (ℓ':=[]) rfl rfl ca b9 rfl;refine opc S rfl (Zo S [.slice (mkA Z) (L) aa] ZCc rfl rfl) (ZAc S.vin (show Rep.rel (ZK (Ze .u64)) _ [.slice (mkA Z) (L) aa] J from cd) cc) ?_;rintro _ cM f w cN ⟨cO,rfl,aY⟩ S;obtain ⟨ce,cf,cg,rfl⟩:=ZU aY;refine mw S rfl fun f S=>Zl (Zc (cb _ _ (wp_ret ?_)));obtain rfl:=Zg H;refine ZC S (ZL rfl (ZD S rfl)) ⟨[.slice ce cf cg],rfl,aY⟩
theorem ZSe {d : World} {c : Zd} (hv : VIn c d) {e : List Value} {a : Nat} (h : Rep.rel Zu c e a) {f : List Value} {b : Nat} (i : Rep.rel Zu c f b) {z : Nat} (hm : Z0b a b = some z) :
    Ret Try.prog 23 #[Zu.val e,Zu.val f] d c (fun y v'=>∃ g,y = Zu.val g ∧ Zu.rel v' g z) :=
  times_w hv h i (ZVl hm)
theorem Zgl {k : World} {a : Zd} (hv : VIn a k) {l : List Value} {x : Int} (m : Rep.rel ZW a l x) {o : List Value} {n : Nat} (p : Rep.rel Zu a o n) {z : Int} (H : ZAg x n = some z) : Ret Try.prog 21 #[ZW.val l,Zu.val o] k a (fun y v'=>∃ q,y = ZW.val q ∧ ZW.rel v' q z):=by
  obtain ⟨r,b,c,d,rfl⟩:=Zwa m;obtain ⟨s,t,u,rfl⟩:=ZU p;refine ZV (K:=12) (args:=[.agg #[.bool r,.slice b c d],.slice s t u]) hv Try.func21 rfl rfl zl fun f S=>?_;unfold ZAg at H;refine sr (ob S rfl (cs:=[.bool r,.slice b c d]) rfl fun M f w S=>ZY S wn rfl zl (cs:=[.bool false,.slice none 0 0]) (ZN Zfc) fun N f w S=>oe (Zh fun _ B=>?_));obtain ⟨P,C,H⟩:=Zb H;obtain ⟨Q,D,H⟩:=Zb H;refine Zia (fl:=#[true,true,true,true,true,false,false,false]) Zja (by kernel_rfl) S ?_;intro ops O F w S;refine rfa O F 0 rfl rfl S (Zq S rfl ZIa) fun f S=>?_;obtain ⟨rfl,E⟩:=Z2a m;refine rfa O F 1 rfl rfl S (lo S rfl ZHa 1 rfl rfl) fun f S=>rfa O F 2 rfl rfl S (Zq S rfl ZGa) fun f S=>rfa O F 3 rfl rfl S (lo S rfl Z3 1 rfl rfl) fun f S=>rfa O F 4 rfl rfl S (Zs S rfl) fun f S=>go1 O F 5 (nxc [3,4,2] [0,1] O rfl S rfl (Zo S [.slice b c d,.slice s t u] ZUe rfl rfl) (ZSe S.vin E p C) ?_);rintro _ R f w T ⟨U,rfl,v⟩ S;obtain ⟨G,I,J,rfl⟩:=ZU v;refine ⟨(py S rfl rfl (Zq S rfl ZIa) (py S rfl rfl (lo S rfl ZHa 1 rfl rfl) Zr)),go1 O F 6 (nxc [1,5,0,3,4,2] [] O rfl S rfl (Zo S [.bool (decide (x < 0)),.slice G I J] ZWc rfl rfl) (Z8c S.vin (show Rep.rel Zha _ [.bool (decide (x < 0))] (decide (x < 0)) from ZUa) v D) ?_)⟩
  rintro _ V f w W ⟨X,rfl,A⟩ S;obtain ⟨e,g,h,j,rfl⟩:=Zwa A;refine ⟨Zr,go1 O F 7 ?_⟩;obtain ⟨w,L,S⟩:=sbp S [.bool e,.slice g h j] Zfa 0 0 rfl;refine nxs [0,1,2,3,4,5,6] [] O rfl rfl (L rfl rfl) (⟨Zr,Z1 O F (Zc (B _ _ (wp_ret ?_)))⟩);obtain rfl:=Zg H;refine ZC S (ZL rfl (ZJb S rfl Zfa rfl (S.box (i:=0) rfl 0 [.bool e,.slice g h j] rfl))) ⟨[.bool e,.slice g h j],rfl,A⟩
theorem Zaf {b : World} {a : Zd} (hv : VIn a b) {c : List Value} {x : Int} (f : Rep.rel ZW a c x) {d : List Value} {n : Nat} (g : Rep.rel Zu a d n) {z : Int} (hm : Zfd x n = some z) :
    Ret Try.prog 21 #[ZW.val c,Zu.val d] b a (fun y v'=>∃ e,y = ZW.val e ∧ ZW.rel v' e z) :=
  Zgl hv f g (Zyl hm)
theorem under_w {e : World} {b : Zd} (hv : VIn b e) {g : List Value} {d : Nat} (c : Rep.rel Zu b g d) {z : Nat} (H : ZKg d = some z) : Ret Try.prog 19 #[Zu.val g] e b (fun y v'=>∃ h,y = Zu.val h ∧ Zu.rel v' h z):=by
  obtain ⟨i,j,k,rfl⟩:=ZU c;refine ZV (K:=8) (args:=[.slice i j k]) hv Try.func19 rfl rfl zl fun f S=>?_;unfold ZKg at H;refine sr (mw S rfl fun f S=>oe (Zh fun _ m=>sr (mv S rfl fun f S=>ov S rfl (ZR S (ZE c) rfl rfl ZI) fun f S=>ov S rfl (Zi S rfl rfl Zpa) fun f S=>oe ?_)));rcases Zx (((((Zj 18446744073709551616 d)).length : Int)) == ((0 : Int))) with a | a
  · have H:=Zw H a;refine ZH S rfl a (Zh fun _ n=>?_);obtain ⟨s,o,H⟩:=Zb H;refine Zm (opc S rfl (Zo S [.int .u64 ((1 : Int))] ZVd rfl rfl) (Zqe S.vin (show Rep.rel (Ze .u64) _ [.int .u64 ((1 : Int))] ((1 : Int)) from (Zv (by decide))) o) ?_);rintro _ t f w u ⟨v,rfl,l⟩ S;obtain ⟨p,q,r,rfl⟩:=ZU l;refine mw S rfl fun f S=>Zl (Zc (n _ _ (wp_ret (ZM ?_))));obtain rfl:=Zg H;refine ZC S (ZL rfl (ZD S rfl)) ⟨[.slice p q r],rfl,l⟩
  have H:=Zy H a;refine ZF S rfl a (wp_skip (Zc (m _ _ (sr (mv S rfl fun f S=>mw S rfl fun f S=>oe (wp_ret ?_))))));obtain rfl:=Zg H;refine ZC S (ZL rfl (ZD S rfl)) ⟨[.slice i j k],rfl,c⟩
theorem ZGd {b : World} {a : Zd} (hv : VIn a b) {c : List Value} {d : Nat} (f : Rep.rel Zu a c d) {z : Nat} (hm : Zcc d = some z) :
    Ret Try.prog 19 #[Zu.val c] b a (fun y v'=>∃ e,y = Zu.val e ∧ Zu.rel v' e z) :=
  under_w hv f (ZBl hm)
end Go.Eng
