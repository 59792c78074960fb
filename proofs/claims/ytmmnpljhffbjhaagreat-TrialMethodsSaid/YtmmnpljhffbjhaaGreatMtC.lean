/- Lemmas towards the statement: the engine of the walks, the functions' models, laws and walks, part 3. Conditions: as each states. -/
import Derived.Test.YtmmnpljhffbjhaaGreatProg
import Derived.Test.YtmmnpljhffbjhaaGreatMtB
set_option linter.all false
set_option maxRecDepth 100000
namespace Go.Eng
theorem ZAj (n : Nat) : (ZSa n).length ≤ bl n := by
  induction n using Nat.strongRecOn with
  | ind n ih =>
    by_cases h : n = 0
    · subst h; rw [ZUc]; simp
    · rw [Zae h, List.length_append]; have h1 := ih (n / 10) (by omega); have h2 : bl (n / 10) + 1 ≤ bl n := by
        rw [ZSi h]; exact Nat.add_le_add_right (ZGd (by omega)) 1
      simp only [List.length_cons, List.length_nil]; omega
theorem Zbm {n k : Nat} (h : n < 10 ^ k) : (ZSa n).length ≤ k := by
  induction k generalizing n with
  | zero => simp at h; subst h; rw [ZUc]; simp
  | succ k ih =>
    by_cases h0 : n = 0
    · subst h0; rw [ZUc]; simp
    · rw [Zae h0, List.length_append]; have := ih (n := n / 10) (by rw [Nat.pow_succ] at h; omega); simp only [List.length_cons, List.length_nil]; omega
theorem ZYm {q : Nat} (hq : q ≠ 0) : ∀ (k r : Nat), r < 10 ^ k → ZSa (q * 10 ^ k + r) = ZSa q ++ (List.replicate (k - (ZSa r).length) 48 ++ ZSa r) := by
  intro k
  induction k with
  | zero => intro r h; simp at h; subst h; rw [ZUc]; simp
  | succ k ih =>
    intro r h; rw [Nat.pow_succ] at h; have hn : q * 10 ^ (k + 1) + r ≠ 0 := by
      have : 0 < q * 10 ^ (k + 1) := Nat.mul_pos (by omega) (Nat.pow_pos (by omega)); omega
    have e1 : (q * 10 ^ (k + 1) + r) / 10 = q * 10 ^ k + r / 10 := by rw [Nat.pow_succ, ← Nat.mul_assoc]; generalize q * 10 ^ k = p; omega
    have e2 : (q * 10 ^ (k + 1) + r) % 10 = r % 10 := by rw [Nat.pow_succ, ← Nat.mul_assoc]; generalize q * 10 ^ k = p; omega
    rw [Zae hn, e1, e2, ih (r / 10) (by omega)]; by_cases h0 : r = 0
    · subst h0; simp only [Nat.zero_div, ZUc, List.length_nil, Nat.sub_zero, List.append_nil, List.append_assoc]; congr 1; rw [List.replicate_succ']; rfl
    · rw [Zae h0, List.length_append]; simp only [List.length_cons, List.length_nil, List.append_assoc]; rw [show k + 1 - ((ZSa (r / 10)).length + (0 + 1)) = k - (ZSa (r / 10)).length by omega]
theorem Zwf {l : List UInt8} (h : l.length ≤ 140737488355328) : ZKc l = some () := by unfold ZKc; rw [if_pos (by unfold maxLen; omega)]
theorem Z5n {n : Nat} : ZSa n = [] ↔ n = 0 := by
  constructor
  · intro h; rcases Nat.eq_zero_or_pos n with h0 | h0
    · exact h0
    · rw [Zae (by omega)] at h; simp at h
  · rintro rfl; exact ZUc
theorem ZDl (r : List (List UInt8)) (j : Nat) : ((r.drop j).reverse.flatten).length ≤ r.reverse.flatten.length := by
  have h : r.reverse.flatten = (r.drop j).reverse.flatten ++ (r.take j).reverse.flatten := by
    rw [← List.flatten_append, ← List.reverse_append, List.take_append_drop]
  rw [h, List.length_append]; omega
theorem Zuk (c : UInt8) : ∀ k : Nat, (List.replicate k [c]).flatten = List.replicate k c
  | 0 => rfl
  | k + 1 => by rw [List.replicate_succ, List.flatten_cons, Zuk c k, List.replicate_succ]; rfl
theorem text_eq {a : Nat} (ha : okN a) : Z5f a = some (Zkc a) := by
  unfold Z5f; have hbl := Zij ha; have hda := ZAj a; rw [Z0a]; refine Zeb (fun s : Nat × List (List UInt8) => okN s.1 ∧ ZSa s.1 ++ s.2.reverse.flatten = ZSa a ∧ bl s.1 + s.2.length ≤ bl a) (fun s => bl s.1) (fun r : List (List UInt8) => r.reverse.flatten = ZSa a ∧ r.length ≤ bl a ∧ (a ≠ 0 → r ≠ [])) ⟨ha, by simp, by simp⟩ (ZZa (by simp only; omega)) ?_ ?_
  · rintro ⟨x, s⟩ ⟨hx, he, hl⟩; simp only at hx he hl ⊢; by_cases h0 : x = 0
    · right; subst h0; rw [ZVa, show decide ((0 : Int) < (([] : List Int).length : Int)) = false from rfl, ZY]; rw [ZUc, List.nil_append] at he; refine ⟨_, rfl, he, by omega, fun h1 h2 => ?_⟩; subst h2; exact h1 (Z5n.1 he.symm)
    · left; have hpos := List.length_pos_iff.2 ((Zmc (n := x) (B := 18446744073709551616) (by decide)).2 h0); have e1 : Zsd x (10000000000000000000 : Int) = some (x / 10000000000000000000, ((x % 10000000000000000000 : Nat) : Int)) := by
        unfold Zsd; rw [if_pos ⟨hx, by omega⟩]; rfl
      have e2 : Z6e ((x % 10000000000000000000 : Nat) : Int) = some (ZSa (x % 10000000000000000000)) := by unfold Z6e; rw [Int.toNat_natCast]
      rw [decide_eq_true (show (0 : Int) < ((Zg 18446744073709551616 x).length : Int) by omega), Z1, e1, Zh]; simp only; rw [e2, Zh]; have hr : (ZSa (x % 10000000000000000000)).length ≤ 19 := Zbm (k := 19) (Nat.mod_lt _ (by decide)); have hb2 : bl (x / 10000000000000000000) + 1 ≤ bl x := by
        rw [ZSi h0]; exact Nat.add_le_add_right (ZGd (by omega)) 1
      have hsplit : ∃ p : List UInt8, ifb (decide ((0 : Int) < ((Zg 18446744073709551616 (x / 10000000000000000000)).length : Int))) (bnd (chk .i64 (19 - ((ZSa (x % 10000000000000000000)).length : Int))) fun y218 => bnd (ZXe [48] y218) fun y220 => bnd (ZKc (y220 ++ ZSa (x % 10000000000000000000))) fun y227 => some (y220 ++ ZSa (x % 10000000000000000000))) (some (ZSa (x % 10000000000000000000))) = some p ∧ ZSa (x / 10000000000000000000) ++ p = ZSa x := by
        by_cases hq : x / 10000000000000000000 = 0
        · refine ⟨_, by rw [hq, ZVa]; rfl, ?_⟩; rw [hq, ZUc, List.nil_append]; congr 1; omega
        · have hpos := List.length_pos_iff.2 ((Zmc (n := x / 10000000000000000000) (B := 18446744073709551616) (by decide)).2 hq); obtain ⟨k, hk⟩ : ∃ k, k = 19 - (ZSa (x % 10000000000000000000)).length := ⟨_, rfl⟩; have e3 : chk .i64 (19 - ((ZSa (x % 10000000000000000000)).length : Int)) = some (k : Int) := by rw [show (19 - ((ZSa (x % 10000000000000000000)).length : Int)) = (k : Int) by omega, Zgb (by omega)]
          have e4 : ZXe [48] (k : Int) = some (List.replicate k 48) := by
            unfold ZXe; rw [if_pos ⟨by omega, by simp; omega⟩, Int.toNat_natCast, Zuk]
          refine ⟨List.replicate k 48 ++ ZSa (x % 10000000000000000000), ?_, ?_⟩
          · rw [decide_eq_true (by omega), Z1, e3, Zh, e4, Zh, Zwf (by simp; omega), Zh]
          · have := ZYm hq 19 (x % 10000000000000000000) (Nat.mod_lt _ (by decide)); rw [show x / 10000000000000000000 * 10 ^ 19 + x % 10000000000000000000 = x by omega] at this; rw [this, hk]
      obtain ⟨p, ep, hp⟩ := hsplit; rw [ep, Zh, Zle (by simp; omega), Zh]; refine ⟨_, rfl, ⟨ZFh (Nat.div_le_self _ _) hx, ?_, by simp; omega⟩, by simp only; omega⟩; simp only [List.reverse_append, List.reverse_cons, List.reverse_nil, List.nil_append, List.singleton_append, List.flatten_cons]; rw [← List.append_assoc, hp, he]
  · rintro r ⟨hr, hl, hne⟩; rw [Zh]; by_cases h0 : a = 0
    · subst h0; have : r = [] := by
        have := hl; simp [bl] at this; exact this
      subst this; rfl
    · have hne := hne h0; have hpos : 0 < r.length := List.length_pos_iff.2 hne; have e1 : ((r.length : Int) == 0) = false := beq_false_of_ne (by omega); rw [e1, ZY, ZJa (by omega) (by omega), Zh, Z0a]; unfold Zkc; rw [if_neg h0]; refine Zeb (fun s : List UInt8 × Int => ∃ k : Nat, s.2 = (k : Int) - 1 ∧ k ≤ r.length ∧ s.1 = (r.drop k).reverse.flatten) (fun s => (s.2 + 1).toNat) (fun t : List UInt8 => t = ZSa a) ⟨r.length, rfl, by omega, by simp⟩ (ZZa (by simp only; omega)) ?_ ?_
      · rintro ⟨s, i⟩ ⟨k, hi, hk, hs⟩; simp only at hi hs ⊢; subst hi hs; by_cases hk0 : k = 0
        · right; subst hk0; rw [show decide ((0 : Int) ≤ ((0 : Nat) : Int) - 1) = false from rfl, ZY]; exact ⟨_, rfl, by rw [List.drop_zero]; exact hr⟩
        · left; obtain ⟨j, rfl⟩ : ∃ j, k = j + 1 := ⟨k - 1, by omega⟩; have ej : ((j + 1 : Nat) : Int) - 1 = (j : Int) := by omega
          have hj : j < r.length := by omega
          have hnew : (r.drop (j + 1)).reverse.flatten ++ r[j] = (r.drop j).reverse.flatten := by
            rw [List.drop_eq_getElem_cons hj, List.reverse_cons, List.flatten_append]; simp
          have hlen : ((r.drop j).reverse.flatten).length ≤ r.reverse.flatten.length := ZDl r j; rw [hr] at hlen; have e2 : ZJf ((r.drop (j + 1)).reverse.flatten ++ r[j]) = some () := by unfold ZJf; rw [if_pos (by rw [hnew]; omega)]
          rw [ej, decide_eq_true (show (0 : Int) ≤ (j : Int) by omega), Z1, Zua hj, Zh, e2, Zh, ZJa (by omega) (by omega), Zh]; exact ⟨_, rfl, ⟨j, rfl, by omega, hnew⟩, by simp⟩
      · rintro t rfl; rw [Zh, Zwf (by omega), Zh]
theorem ZBn {n : Nat} {z : List UInt8} (h : Z2e n = some z) : Z5f n = some z := by
  unfold Z2e at h; split at h
  · rename_i hh; rw [text_eq hh, h]
  · cases h
theorem Z7j {n : Nat} (h : bl n ≤ 4398046511104) : (Zkc n).length ≤ 4398046511104 := by
  unfold Zkc; split
  · simp
  · have := ZAj n; omega
theorem Zpo {x : Rat} {z : List UInt8} (h : Z9d x = some z) : ZAg x = some z := by
  unfold Z9d at h; split at h
  · rename_i hh; obtain ⟨h1, h2⟩ := hh
    cases h
    unfold ZAg Z2e; have l1 := Z7j (n := x.num.natAbs) (by omega); have l2 := Z7j (n := x.den) (by omega); rw [if_pos (Z6a (by omega)), Zh]; have e1 : ifb (decide (x.num < 0)) (bnd (ZKc ([45] ++ Zkc x.num.natAbs)) fun y80 => some (([45] : List UInt8) ++ Zkc x.num.natAbs)) (some (Zkc x.num.natAbs)) = some ((if x.num < 0 then [45] else []) ++ Zkc x.num.natAbs) := by
      by_cases h : x.num < 0
      · rw [decide_eq_true h, Z1, Zwf (by simp; omega), Zh, if_pos h]
      · rw [decide_eq_false h, ZY, if_neg h]; rfl
    rw [e1, Zh]; unfold txtQ; have l3 : ((if x.num < 0 then [45] else []) ++ Zkc x.num.natAbs : List UInt8).length ≤ 4398046511105 := by
      rw [List.length_append]; split <;> simp <;> omega
    generalize ((if x.num < 0 then [45] else []) ++ Zkc x.num.natAbs : List UInt8) = s at *; by_cases hd : x.den = 1
    · rw [hd]; rw [show Z5a 1 = 0 from rfl, ZVa]; simp [ifb, bnd]
    · have e2 : Z5a x.den = x.den := by unfold Z5a; rw [if_neg hd]
      have hpos := List.length_pos_iff.2 ((Zmc (n := x.den) (B := 18446744073709551616) (by decide)).2 x.den_nz); rw [e2, decide_eq_true (by omega), Z1, if_pos (Z6a (by omega)), Zh, Zwf (by simp; omega), Zh, Zwf (by simp; omega), Zh, Zh, if_neg hd]; rfl
  · cases h
noncomputable def Zei (x : Rat) : Option (Bool) :=
 bnd (ZYc x) fun y10 =>
 some (decide (y10 ≤ (0 : Int)))
noncomputable def Zeh (l : (List Rat)) (g : Unit) : Option (Int) :=
 bnd (bnd (Zna (fun s : Int => match s with
 | x21 =>
 (ifb (decide (x21 < (l.length : Int)))
 (bnd (idx l x21) fun y45 =>
 bnd (Zei y45) fun y55 =>
 ifb (y55)
 (some (.inr ((.inl x21))))
 (bnd (chk .i64 (x21 + ((1 : Int)))) fun y76 =>
 some (.inl y76)))
 (some (.inr ((.inr (()))))))) ZBa ((0 : Int)))
 (fun (p : (Int) ⊕ (Unit)) => match p with
 | .inl x33 =>
 (some ((.inr x33)))
 | .inr (()) =>
 (some ((.inl (()))))))
 (fun (p : (Unit) ⊕ (Int)) => match p with
 | .inl (()) =>
 (some ((-1 : Int)))
 | .inr x20 =>
 (some x20))
noncomputable def Zug (l : (List Rat)) (g : Unit) : Option (Bool) :=
 bnd (Zeh l (())) fun y8 =>
 some (decide ((0 : Int) ≤ y8))
noncomputable def Z1e (l : (List Rat)) : Option (Bool) :=
 bnd (Zug l (())) fun y8 =>
 some (!(y8))
noncomputable def ZTi (t : (Rat × (List Rat))) : Option (Int) :=
 bnd (Z1e ([t.1])) fun y26 =>
 ifb (!(y26))
 (some ((1 : Int)))
 (bnd (ifb (((t.2.length : Int)) == ((0 : Int)))
 (some true)
 (some (decide ((16 : Int) ≤ (t.2.length : Int)))))
 (fun (x51 : Bool) =>
 (ifb (x51)
 (some ((4 : Int)))
 (bnd (bnd (Zna (fun s : Int => match s with
 | x77 =>
 (ifb (decide (x77 < (t.2.length : Int)))
 (bnd (idx t.2 x77) fun y99 =>
 bnd (ifb (decide ((0 : Int) < x77))
 (bnd (chk .i64 (x77 - ((1 : Int)))) fun y138 =>
 bnd (idx t.2 y138) fun y140 =>
 bnd (ZHc y99 y140) fun y148 =>
 some (decide (y148 ≤ (0 : Int))))
 (some false))
 (fun (x124 : Bool) =>
 (ifb (x124)
 (some (.inr ((.inl ((7 : Int))))))
 (bnd (chk .i64 (x77 + ((1 : Int)))) fun y135 =>
 some (.inl y135)))))
 (some (.inr ((.inr (()))))))) ZBa ((0 : Int)))
 (fun (p : (Int) ⊕ (Unit)) => match p with
 | .inl x89 =>
 (some ((.inr x89)))
 | .inr (()) =>
 (some ((.inl (()))))))
 (fun (p : (Unit) ⊕ (Int)) => match p with
 | .inl (()) =>
 (some ((0 : Int)))
 | .inr x76 =>
 (some x76))))))
noncomputable def Zii (y : Rat) (r : Rat) : Option (Bool) :=
 bnd (ZHc y r) fun y18 =>
 some (decide ((0 : Int) ≤ y18))
noncomputable def ZHi (l : (List Rat)) (g : Rat) : Option (Int) :=
 bnd (bnd (Zna (fun s : Int => match s with
 | x31 =>
 (ifb (decide (x31 < (l.length : Int)))
 (bnd (idx l x31) fun y55 =>
 bnd (Zii y55 g) fun y65 =>
 ifb (y65)
 (some (.inr ((.inl x31))))
 (bnd (chk .i64 (x31 + ((1 : Int)))) fun y86 =>
 some (.inl y86)))
 (some (.inr ((.inr (()))))))) ZBa ((0 : Int)))
 (fun (p : (Int) ⊕ (Unit)) => match p with
 | .inl x43 =>
 (some ((.inr x43)))
 | .inr (()) =>
 (some ((.inl (()))))))
 (fun (p : (Unit) ⊕ (Int)) => match p with
 | .inl (()) =>
 (some ((-1 : Int)))
 | .inr x30 =>
 (some x30))
noncomputable def Zcj (t : (Rat × (List Rat))) (x : Rat) : Option (Int) :=
 bnd (Zzh x t.1) fun y22 =>
 bnd (ZHi t.2 y22.1) fun y53 =>
 ifb (decide (y53 < (0 : Int)))
 (some ((t.2.length : Int)))
 (some y53)
noncomputable def Zbj (t : (Rat × (List Rat))) (x : Rat) : Option (Int × Int) :=
 bnd (ZTi ((t.1, t.2))) fun y24 =>
 ifb (y24 != ((0 : Int)))
 (some (((0 : Int), y24)))
 (bnd (Zcj ((t.1, t.2)) x) fun y43 =>
 some ((y43, (0 : Int))))
noncomputable def Z9e (d : ((Int × Int) × (Int × Int) × (Int × Int))) : Option ((Rat × Rat × Rat) × (Rat × Rat × Rat)) :=
 bnd (Zfc ((d.1.1, d.1.2))) fun y37 =>
 bnd (Zfc ((d.2.1.1, d.2.1.2))) fun y46 =>
 bnd (Zfc ((d.2.2.1, d.2.2.2))) fun y55 =>
 bnd (ZJd ((d.1.1, d.1.2))) fun y64 =>
 bnd (ZJd ((d.2.1.1, d.2.1.2))) fun y73 =>
 bnd (ZJd ((d.2.2.1, d.2.2.2))) fun y82 =>
 some (((y37, y46, y55), (y64, y73, y82)))
noncomputable def ZPd (x : Rat) (y : Rat) : Option (Rat) :=
 bnd (Z7c x y) fun y17 =>
 some y17.1
noncomputable def ZAc (n : Int) : Option (Rat) :=
 bnd (Z5c n) fun y8 =>
 some y8
noncomputable def ZYe (d : (Rat × Rat × Rat)) : Option (Bool) :=
 bnd (Z1e ([d.1, d.2.1, d.2.2])) fun y31 =>
 some y31
noncomputable def Zff (d : (Rat × Rat × Rat)) (x : Rat) (y : Rat) : Option (Rat × Int) :=
 bnd (ZYe ((d.1, d.2.1, d.2.2))) fun y38 =>
 ifb (!(y38))
 (some (((0 : Rat), (1 : Int))))
 (bnd (Z9b x y) fun y55 =>
 bnd (ZAc ((1 : Int))) fun y64 =>
 bnd (ZPd d.2.1 d.1) fun y73 =>
 bnd (ZVb y64 y73) fun y82 =>
 bnd (ZKb y55 y82) fun y91 =>
 some ((y91, (0 : Int))))
noncomputable def ZKg (i : Int) (k : Int) : Option (Rat) :=
 ifb (i == k)
 (bnd (ZAc ((1 : Int))) fun y14 =>
 some y14)
 (some ((0 : Rat)))
noncomputable def Zwi (t : (List (List Int))) (n : Int) (g : Unit) : Option (Rat × Rat) :=
 bnd (bnd (mk 8 ((t.length : Int)) ((t.length : Int))) fun y767 =>
 bnd (mk 8 ((t.length : Int)) ((t.length : Int))) fun y776 =>
 some (((List.replicate ((t.length : Int)).toNat ((0 : Int))), (List.replicate ((t.length : Int)).toNat ((0 : Int))))))
 (fun (p : (List Int) × (List Int)) => match p with
 | (x14, x22) =>
 (bnd (bnd (Zna (fun s : (List Int) × (List Int) × Int => match s with
 | (x535, x543, x551) =>
 (ifb (decide (x551 < (t.length : Int)))
 (bnd (idx t x551) fun y588 =>
 bnd (bnd (Zna (fun s : (List Int) × (List Int) × Int => match s with
 | (x634, x642, x650) =>
 (ifb (decide (x650 < (y588.length : Int)))
 (bnd (idx y588 x650) fun y687 =>
 bnd (idx x634 x551) fun y703 =>
 bnd (chk .i64 (y703 + y687)) fun y710 =>
 bnd (idx x634 x551) fun y712 =>
 bnd (idx x642 x650) fun y733 =>
 bnd (chk .i64 (y733 + y687)) fun y740 =>
 bnd (idx x642 x650) fun y742 =>
 bnd (chk .i64 (x650 + ((1 : Int)))) fun y763 =>
 some (.inl (((x634.set (x551).toNat y710), (x642.set (x650).toNat y740), y763))))
 (some (.inr ((x634, x642)))))) ZBa ((x535, x543, (0 : Int))))
 (fun (p : (List Int) × (List Int)) => match p with
 | (x654, x662) =>
 (some ((x654, x662)))))
 (fun (p : (List Int) × (List Int)) => match p with
 | (x609, x617) =>
 (bnd (chk .i64 (x551 + ((1 : Int)))) fun y632 =>
 some (.inl ((x609, x617, y632))))))
 (some (.inr ((x535, x543)))))) ZBa ((x14, x22, (0 : Int))))
 (fun (p : (List Int) × (List Int)) => match p with
 | (x555, x563) =>
 (some ((x555, x563)))))
 (fun (p : (List Int) × (List Int)) => match p with
 | (x42, x50) =>
 (bnd (bnd (Zna (fun s : Rat × Rat × Int => match s with
 | (x189, x194, x199) =>
 (ifb (decide (x199 < (t.length : Int)))
 (bnd (idx t x199) fun y230 =>
 bnd (bnd (Zna (fun s : Rat × Rat × Int => match s with
 | (x270, x275, x280) =>
 (ifb (decide (x280 < (y230.length : Int)))
 (bnd (idx y230 x280) fun y311 =>
 bnd (ZKg x199 x280) fun y327 =>
 bnd (ZAc y311) fun y336 =>
 bnd (ZKb y327 y336) fun y345 =>
 bnd (ZVb x270 y345) fun y354 =>
 bnd (ZKg x199 x280) fun y393 =>
 bnd (idx x42 x199) fun y402 =>
 bnd (ZAc y402) fun y409 =>
 bnd (ZKb y393 y409) fun y418 =>
 bnd (idx x50 x280) fun y427 =>
 bnd (ZAc y427) fun y434 =>
 bnd (ZKb y418 y434) fun y443 =>
 bnd (ZVb x275 y443) fun y452 =>
 bnd (chk .i64 (x280 + ((1 : Int)))) fun y531 =>
 some (.inl ((y354, y452, y531))))
 (some (.inr ((x270, x275)))))) ZBa ((x189, x194, (0 : Int))))
 (fun (p : Rat × Rat) => match p with
 | (x284, x289) =>
 (some ((x284, x289)))))
 (fun (p : Rat × Rat) => match p with
 | (x251, x256) =>
 (bnd (chk .i64 (x199 + ((1 : Int)))) fun y268 =>
 some (.inl ((x251, x256, y268))))))
 (some (.inr ((x189, x194)))))) ZBa (((0 : Rat), (0 : Rat), (0 : Int))))
 (fun (p : Rat × Rat) => match p with
 | (x203, x208) =>
 (some ((x203, x208)))))
 (fun (p : Rat × Rat) => match p with
 | (x70, x75) =>
 (bnd (ZAc n) fun y89 =>
 bnd (ZPd x70 y89) fun y98 =>
 bnd (ZAc n) fun y107 =>
 bnd (ZAc n) fun y116 =>
 bnd (ZKb y107 y116) fun y125 =>
 bnd (ZPd x75 y125) fun y134 =>
 some ((y98, y134))))))))
noncomputable def Zej (r : (List Int)) (t : (List (List Int))) : Option (Bool) :=
 some (((r.length : Int)) != ((t.length : Int)))
noncomputable def Zoi (l : (List (List Int))) (g : (List (List Int))) : Option (Int) :=
 bnd (bnd (Zna (fun s : Int => match s with
 | x31 =>
 (ifb (decide (x31 < (l.length : Int)))
 (bnd (idx l x31) fun y55 =>
 bnd (Zej y55 g) fun y65 =>
 ifb (y65)
 (some (.inr ((.inl x31))))
 (bnd (chk .i64 (x31 + ((1 : Int)))) fun y86 =>
 some (.inl y86)))
 (some (.inr ((.inr (()))))))) ZBa ((0 : Int)))
 (fun (p : (Int) ⊕ (Unit)) => match p with
 | .inl x43 =>
 (some ((.inr x43)))
 | .inr (()) =>
 (some ((.inl (()))))))
 (fun (p : (Unit) ⊕ (Int)) => match p with
 | .inl (()) =>
 (some ((-1 : Int)))
 | .inr x30 =>
 (some x30))
noncomputable def ZPi (l : (List (List Int))) (g : (List (List Int))) : Option (Bool) :=
 bnd (Zoi l g) fun y18 =>
 some (decide ((0 : Int) ≤ y18))
noncomputable def ZDi (t : (List (List Int))) : Option (Int × Int) :=
 bnd (ifb (((t.length : Int)) == ((0 : Int)))
 (some ((t, true)))
 (ifb (decide ((8 : Int) < (t.length : Int)))
 (some ((t, true)))
 (bnd (ZPi t t) fun y189 =>
 some ((t, y189)))))
 (fun (p : (List (List Int)) × Bool) => match p with
 | (x13, x21) =>
 (ifb (x21)
 (some (((0 : Int), (4 : Int))))
 (bnd (bnd (Zna (fun s : Int × Int => match s with
 | (x59, x61) =>
 (ifb (decide (x61 < (x13.length : Int)))
 (bnd (idx x13 x61) fun y86 =>
 bnd (bnd (Zna (fun s : Int × Int => match s with
 | (x120, x122) =>
 (ifb (decide (x122 < (y86.length : Int)))
 (bnd (idx y86 x122) fun y147 =>
 bnd (ifb (decide (y147 < (0 : Int)))
 (some true)
 (some (decide ((1000000 : Int) < y147))))
 (fun (x166 : Bool) =>
 (ifb (x166)
 (some (.inr ((.inl (((0 : Int), (1 : Int)))))))
 (bnd (chk .i64 (x120 + y147)) fun y177 =>
 bnd (chk .i64 (x122 + ((1 : Int)))) fun y179 =>
 some (.inl ((y177, y179)))))))
 (some (.inr ((.inr x120)))))) ZBa ((x59, (0 : Int))))
 (fun (p : (Int × Int) ⊕ (Int)) => match p with
 | .inl ((x136, x137)) =>
 (some ((.inr ((x136, x137)))))
 | .inr x126 =>
 (some ((.inl x126)))))
 (fun (p : (Int) ⊕ (Int × Int)) => match p with
 | .inl x107 =>
 (bnd (chk .i64 (x61 + ((1 : Int)))) fun y116 =>
 some (.inl ((x107, y116))))
 | .inr ((x118, x119)) =>
 (some (.inr ((.inl ((x118, x119))))))))
 (some (.inr ((.inr x59)))))) ZBa (((0 : Int), (0 : Int))))
 (fun (p : (Int × Int) ⊕ (Int)) => match p with
 | .inl ((x75, x76)) =>
 (some ((.inr ((x75, x76)))))
 | .inr x65 =>
 (some ((.inl x65)))))
 (fun (p : (Int) ⊕ (Int × Int)) => match p with
 | .inl x39 =>
 (ifb (x39 == ((0 : Int)))
 (some (((0 : Int), (3 : Int))))
 (some ((x39, (0 : Int)))))
 | .inr ((x57, x58)) =>
 (some ((x57, x58)))))))
noncomputable def ZGi (t : (List (List Int))) (g : Unit) : Option (Rat × Int) :=
 bnd (ZDi t) fun y10 =>
 ifb (y10.2 != ((0 : Int)))
 (some (((0 : Rat), y10.2)))
 (bnd (Zwi t y10.1 (())) fun y39 =>
 bnd (bnd (Z9b y39.1 y39.2) fun y105 =>
 bnd (ZAc ((1 : Int))) fun y114 =>
 bnd (Z9b y114 y39.2) fun y123 =>
 bnd (Z7c y105 y123) fun y132 =>
 some ((y132.2, y132.1)))
 (fun (p : Int × Rat) => match p with
 | (x76, x78) =>
 (ifb (x76 != ((0 : Int)))
 (some (((0 : Rat), (5 : Int))))
 (some ((x78, (0 : Int)))))))
noncomputable def ZCi (t : (List (List Int))) : Option (Rat × Int) :=
 bnd (ZGi t (())) fun y10 =>
 some ((y10.1, y10.2))
noncomputable def Zgi (l : (List (Int × Int))) : Option ((List Rat) × (List Rat)) :=
 bnd (bnd (Zna (fun s : (List Rat) × (List Rat) × Int => match s with
 | (x54, x62, x70) =>
 (ifb (decide (x70 < (l.length : Int)))
 (bnd (idx l x70) fun y107 =>
 bnd (Zfc ((y107.1, y107.2))) fun y135 =>
 bnd (Zub 56 (x54 ++ [y135])) fun y148 =>
 bnd (ZJd ((y107.1, y107.2))) fun y154 =>
 bnd (Zub 56 (x62 ++ [y154])) fun y167 =>
 bnd (chk .i64 (x70 + ((1 : Int)))) fun y203 =>
 some (.inl (((x54 ++ [y135]), (x62 ++ [y154]), y203))))
 (some (.inr ((x54, x62)))))) ZBa ((([] : (List Rat)), ([] : (List Rat)), (0 : Int))))
 (fun (p : (List Rat) × (List Rat)) => match p with
 | (x74, x82) =>
 (some ((x74, x82)))))
 (fun (p : (List Rat) × (List Rat)) => match p with
 | (x23, x31) =>
 (some ((x23, x31))))
noncomputable def Z1i (step : (Int × Int)) (limits : (List (Int × Int))) : Option ((Rat × (List Rat)) × (Rat × (List Rat))) :=
 bnd (Zgi limits) fun y20 =>
 bnd (Zfc ((step.1, step.2))) fun y48 =>
 bnd (ZJd ((step.1, step.2))) fun y57 =>
 some (((y48, y20.1), (y57, y20.2)))
noncomputable def Z7e  : Option (Bool) :=
 bnd (Z9e ((((2 : Int), (0 : Int)), ((1 : Int), (2 : Int)), ((4000 : Int), (0 : Int))))) fun y5 =>
 bnd (bnd (Z5c ((48 : Int))) fun y353 =>
 bnd (Z5c ((8 : Int))) fun y362 =>
 bnd (Zff ((y5.1.1, y5.1.2.1, y5.1.2.2)) y353 y362) fun y371 =>
 some ((y371.1, y371.2)))
 (fun (p : Rat × Int) => match p with
 | (x98, x105) =>
 (bnd (ZCi ([[(20 : Int), (5 : Int)], [(10 : Int), (15 : Int)]])) fun y137 =>
 bnd (Z1i (((1 : Int), (10 : Int))) ([((1 : Int), (0 : Int)), ((2 : Int), (0 : Int))])) fun y193 =>
 bnd (Zfc (((206 : Int), (100 : Int)))) fun y264 =>
 bnd (Zbj ((y193.1.1, y193.1.2)) y264) fun y273 =>
 bnd (ifb (x105 == ((0 : Int)))
 (ifb (y137.2 == ((0 : Int)))
 (ifb (y273.2 == ((0 : Int)))
 (bnd (Z9d x98) fun y312 =>
 ifb (y312 == (([53, 48] : List UInt8)))
 (bnd (Z9d y137.1) fun y320 =>
 ifb (y320 == (([50, 47, 53] : List UInt8)))
 (some (y273.1 == ((2 : Int))))
 (some false))
 (some false))
 (some false))
 (some false))
 (some false))
 (fun (x301 : Bool) =>
 (some x301))))
noncomputable def Zpf (d : (Rat × Rat × Rat)) : Option (Bool) :=
 bnd (bnd (Zye d.1) fun y33 =>
 ifb (decide ((0 : Int) < y33))
 (bnd (Zye d.2.1) fun y41 =>
 ifb (decide ((0 : Int) < y41))
 (bnd (Zye d.2.2) fun y49 =>
 some (decide ((0 : Int) < y49)))
 (some false))
 (some false))
 (fun (x25 : Bool) =>
 (some x25))
theorem Zxj (x : Rat) : 0 ≤ x * x := by
  by_cases h : 0 ≤ x
  · exact Rat.mul_nonneg h h
  · have h2 : 0 ≤ -x := by grind
    have := Rat.mul_nonneg h2 h2; grind
theorem num_pos {q : Rat} : 0 < q.num ↔ 0 < q := by
  have h1 := Rat.num_nonneg (q := q); have h2 := Rat.num_eq_zero (q := q); constructor
  · intro h; have h3 : 0 ≤ q := h1.1 (by omega); have h4 : q ≠ 0 := fun e => by have := h2.2 e; omega
    grind
  · intro h; have h3 : 0 ≤ q.num := h1.2 (by grind); have h4 : q.num ≠ 0 := fun e => by have := h2.1 e; grind
    omega
theorem num_neg {q : Rat} : q.num < 0 ↔ q < 0 := by
  have h1 := Rat.num_nonneg (q := q); constructor
  · intro h; rcases Rat.le_total (a := 0) (b := q) with h3 | h3
    · have := h1.2 h3; omega
    · have h4 : q ≠ 0 := fun e => by subst e; simp at h
      grind
  · intro h; rcases Int.lt_or_le q.num 0 with h3 | h3
    · exact h3
    · have := h1.1 h3; grind
theorem ZRe {q : Rat} : (0 < q.num.sign) ↔ 0 < q := by
  rw [← num_pos]; rcases Int.lt_trichotomy q.num 0 with h | h | h
  · rw [Int.sign_eq_neg_one_of_neg h]; omega
  · rw [h]; simp
  · rw [Int.sign_eq_one_of_pos h]; omega
theorem ZHo {q : Rat} : (q.num.sign < 0) ↔ q < 0 := by
  rw [← num_neg]; rcases Int.lt_trichotomy q.num 0 with h | h | h
  · rw [Int.sign_eq_neg_one_of_neg h]; omega
  · rw [h]; simp
  · rw [Int.sign_eq_one_of_pos h]; omega
theorem Zaj {q : Rat} : (q.num.sign ≤ 0) ↔ q ≤ 0 := by
  have h := ZRe (q := q); constructor
  · intro h1; rcases Rat.le_total (a := q) (b := 0) with h2 | h2
    · exact h2
    · by_cases h3 : q = 0
      · grind
      · have := h.2 (by grind); omega
  · intro h1; rcases Int.lt_or_le 0 q.num.sign with h2 | h2
    · have := h.1 h2; grind
    · exact h2
def sz (k : Nat) (x : Rat) : Prop := bl x.num.natAbs ≤ k ∧ bl x.den ≤ k
theorem sz.mono {k m : Nat} {x : Rat} (h : sz k x) (hk : k ≤ m) : sz m x := ⟨by have := h.1; omega, by have := h.2; omega⟩
theorem sz.ok {k : Nat} {x : Rat} (h : sz k x) (hk : k ≤ 1099511627776) : okQ x := ⟨by have := h.1; omega, by have := h.2; omega⟩
theorem Zdf {k m : Nat} {x y : Rat} (h : sz k x) (h' : sz m y) : sz (k + m + 1) (x + y) := by
  have := Z2j x y; obtain ⟨a, b⟩ := h; obtain ⟨c, d⟩ := h'; exact ⟨by omega, by omega⟩
theorem Zph {k m : Nat} {x y : Rat} (h : sz k x) (h' : sz m y) : sz (k + m + 1) (x - y) := by
  have := ZIj x y; obtain ⟨a, b⟩ := h; obtain ⟨c, d⟩ := h'; exact ⟨by omega, by omega⟩
theorem Zdj {k m : Nat} {x y : Rat} (h : sz k x) (h' : sz m y) : sz (k + m) (x * y) := by
  have := ZKl x y; obtain ⟨a, b⟩ := h; obtain ⟨c, d⟩ := h'; exact ⟨by omega, by omega⟩
theorem Z8k {k m : Nat} {x y : Rat} (h : sz k x) (h' : sz m y) : sz (k + m + 1) (x / y) := by
  have := ZRj (x := x) (y := y); obtain ⟨a, b⟩ := h; obtain ⟨c, d⟩ := h'; exact ⟨by omega, by omega⟩
theorem Z9i {n : Int} (h : -9223372036854775808 ≤ n ∧ n ≤ 9223372036854775807) : sz 64 (n : Rat) := by
  have h2 := Zli n; have h3 : bl n.natAbs ≤ 64 := Zac (show n.natAbs < 2 ^ 64 by omega); exact ⟨by omega, by omega⟩
def i64 (r : Int × Int) : Prop := (-9223372036854775808 ≤ r.1 ∧ r.1 ≤ 9223372036854775807) ∧ (-9223372036854775808 ≤ r.2 ∧ r.2 ≤ 9223372036854775807)
theorem Zgf {r : Int × Int} (h : i64 r) : sz 64 (ZMb r) := by
  unfold ZMb; by_cases h0 : r.2 = 0
  · rw [if_pos h0]; exact Z9i h.1
  · rw [if_neg h0, ZVh]; obtain ⟨⟨a, b⟩, c, d⟩ := h; rcases ZNg (if r.2 < 0 then -r.1 else r.1) r.2.natAbs with ⟨h1, h2⟩ | h1
    · have h3 : bl (if r.2 < 0 then -r.1 else r.1).natAbs ≤ 64 := Zac (show _ < 2 ^ 64 by split <;> omega); have h4 : bl r.2.natAbs ≤ 64 := Zac (show _ < 2 ^ 64 by omega); exact ⟨by omega, by omega⟩
    · omega
theorem ZPe {k m : Nat} {x y : Rat} (h : sz k x) (h' : sz m y) (hk : k + m ≤ 1000000000) : ZVb x y = some (x + y) := by unfold ZVb; rw [if_pos ⟨h.ok (by omega), h'.ok (by omega)⟩]
theorem Zdi {k m : Nat} {x y : Rat} (h : sz k x) (h' : sz m y) (hk : k + m ≤ 1000000000) : Z9b x y = some (x - y) := by unfold Z9b; rw [if_pos ⟨h.ok (by omega), h'.ok (by omega)⟩]
theorem ZPg {k m : Nat} {x y : Rat} (h : sz k x) (h' : sz m y) (hk : k + m ≤ 1000000000) : ZKb x y = some (x * y) := by unfold ZKb; rw [if_pos ⟨h.ok (by omega), h'.ok (by omega)⟩]
theorem ZEj {k m : Nat} {x y : Rat} (h : sz k x) (h' : sz m y) (hk : k + m ≤ 1000000000) (hy : y ≠ 0) : Z7c x y = some (x / y, 0) := by unfold Z7c; rw [if_pos ⟨h.ok (by omega), h'.ok (by omega)⟩, if_neg hy]
theorem Zqj {k m : Nat} {x y : Rat} (h : sz k x) (h' : sz m y) (hk : k + m ≤ 1000000000) : ZHc x y = some (x - y).num.sign := by unfold ZHc; rw [if_pos ⟨h.ok (by omega), h'.ok (by omega)⟩]
def decG : Nat → Nat → List UInt8
  | 0, _ => []
  | k + 1, n => if n = 0 then [] else decG k (n / 10) ++ [UInt8.ofNat (48 + n % 10)]
theorem Zvi : ∀ (k n : Nat), n ≤ k → decG k n = ZSa n
  | 0, n, h => by
    have : n = 0 := by omega
    subst this; rw [ZUc]; rfl
  | k + 1, n, h => by
    by_cases h0 : n = 0
    · subst h0; rw [ZUc]; rfl
    · rw [Zae h0, decG, if_neg h0, Zvi k (n / 10) (by omega)]
def txtG (x : Rat) : List UInt8 := (if x.num < 0 then [45] else []) ++ (if x.num.natAbs = 0 then [48] else decG x.num.natAbs x.num.natAbs) ++ (if x.den = 1 then [] else 47 :: (if x.den = 0 then [48] else decG x.den x.den))
theorem txtG_eq : txtG = txtQ := by
  funext x
  unfold txtG txtQ Zkc; rw [Zvi _ _ (Nat.le_refl _), Zvi _ _ (Nat.le_refl _)]
def Zwk (x : Rat) : Option (List UInt8) := if okQ x then some (txtG x) else none
theorem ZMl : Z9d = Zwk := by
  funext x
  unfold Z9d Zwk; rw [txtG_eq]
set_option maxRecDepth 100000 in
theorem Zck : Z7e = some true := by
  unfold Z7e; rw [ZMl]; decide +kernel
noncomputable def ZVg (x : Rat) : Option (Bool) :=
 bnd (ZYc x) fun y10 =>
 some (decide (y10 < (0 : Int)))
noncomputable def Zkh (l : (List Rat)) (g : Unit) : Option (Int) :=
 bnd (bnd (Zna (fun s : Int => match s with
 | x21 =>
 (ifb (decide (x21 < (l.length : Int)))
 (bnd (idx l x21) fun y45 =>
 bnd (ZVg y45) fun y55 =>
 ifb (y55)
 (some (.inr ((.inl x21))))
 (bnd (chk .i64 (x21 + ((1 : Int)))) fun y76 =>
 some (.inl y76)))
 (some (.inr ((.inr (()))))))) ZBa ((0 : Int)))
 (fun (p : (Int) ⊕ (Unit)) => match p with
 | .inl x33 =>
 (some ((.inr x33)))
 | .inr (()) =>
 (some ((.inl (()))))))
 (fun (p : (Unit) ⊕ (Int)) => match p with
 | .inl (()) =>
 (some ((-1 : Int)))
 | .inr x20 =>
 (some x20))
noncomputable def Ztf (l : (List Rat)) (g : Unit) : Option (Bool) :=
 bnd (Zkh l (())) fun y8 =>
 some (decide ((0 : Int) ≤ y8))
noncomputable def Ztg (l : (List Rat)) : Option (Bool) :=
 bnd (Ztf l (())) fun y8 =>
 some y8
noncomputable def ZCf (x : Rat) (dx : Rat) (y : Rat) (dy : Rat) : Option (Bool × Int) :=
 bnd (Ztg ([dx, dy])) fun y34 =>
 ifb (y34)
 (some ((false, (1 : Int))))
 (bnd (bnd (Z9b x dx) fun y67 =>
 bnd (ZVb y dy) fun y76 =>
 bnd (ZHc y67 y76) fun y85 =>
 ifb (decide (y85 ≤ (0 : Int)))
 (bnd (Z9b y dy) fun y93 =>
 bnd (ZVb x dx) fun y102 =>
 bnd (ZHc y93 y102) fun y111 =>
 some ((decide (y111 ≤ (0 : Int)), (0 : Int))))
 (some ((false, (0 : Int)))))
 (fun (p : Bool × Int) => match p with
 | (x57, x58) =>
 (some ((x57, x58)))))
noncomputable def Zdg (d : (Rat × Rat × Rat)) (x : Rat) (y : Rat) : Option (Rat × Int) :=
 bnd (ZYe ((d.1, d.2.1, d.2.2))) fun y38 =>
 ifb (!(y38))
 (some (((0 : Rat), (1 : Int))))
 (bnd (Z9b x y) fun y55 =>
 bnd (ZPd y55 d.1) fun y64 =>
 some ((y64, (0 : Int))))
noncomputable def Z7h (d : ((Int × Int) × (Int × Int) × (Int × Int))) (r : (Int × Int)) (s : (Int × Int)) (e1 : (Int × Int)) (e2 : (Int × Int)) : Option (Bool) :=
 bnd (Z9e (((d.1.1, d.1.2), (d.2.1.1, d.2.1.2), (d.2.2.1, d.2.2.2)))) fun y65 =>
 bnd (Zpf ((y65.2.1, y65.2.2.1, y65.2.2.2))) fun y159 =>
 ifb (!(y159))
 (bnd (Z7e ) fun y172 =>
 some y172)
 (bnd (bnd (Zfc ((r.1, r.2))) fun y881 =>
 bnd (Zfc ((s.1, s.2))) fun y890 =>
 some ((y881, y890)))
 (fun (p : Rat × Rat) => match p with
 | (x185, x192) =>
 (bnd (bnd (ZKb x185 y65.1.1) fun y766 =>
 bnd (ZVb y65.1.1 y65.1.2.1) fun y775 =>
 bnd (Z7c y766 y775) fun y784 =>
 some ((y784.1, y784.2)))
 (fun (p : Rat × Int) => match p with
 | (x209, x216) =>
 (bnd (bnd (ZVb x209 x192) fun y693 =>
 bnd (Zff ((y65.1.1, y65.1.2.1, y65.1.2.2)) y693 x192) fun y702 =>
 some ((y702.1, y702.2)))
 (fun (p : Rat × Int) => match p with
 | (x228, x235) =>
 (bnd (bnd (ZKb x185 y65.1.1) fun y578 =>
 bnd (ZVb y578 x192) fun y587 =>
 bnd (Zdg ((y65.1.1, y65.1.2.1, y65.1.2.2)) y587 x192) fun y596 =>
 some ((y596.1, y596.2)))
 (fun (p : Rat × Int) => match p with
 | (x247, x254) =>
 (bnd (bnd (Zfc ((e1.1, e1.2))) fun y402 =>
 bnd (Zfc ((e2.1, e2.2))) fun y411 =>
 some ((y402, y411)))
 (fun (p : Rat × Rat) => match p with
 | (x266, x273) =>
 (bnd (ZKb x266 x266) fun y289 =>
 bnd (ZKb x273 x273) fun y298 =>
 bnd (ZCf x228 y289 x247 y298) fun y307 =>
 bnd (ifb ((max (max (max x216 x235) x254) y307.2) == ((0 : Int)))
 (bnd (ZIe x228 x185) fun y349 =>
 ifb (y349)
 (bnd (ZIe x247 x185) fun y356 =>
 ifb (y356)
 (ifb (y307.1)
 (bnd (Z7e ) fun y364 =>
 some y364)
 (some false))
 (some false))
 (some false))
 (some false))
 (fun (x340 : Bool) =>
 (some x340)))))))))))))
theorem Znm (l : List Rat) (hl : l.length ≤ 4611686018427387904) : Zug l () = some (l.any fun x => decide (x.num.sign ≤ 0)) := by
  unfold Zug Zeh Zei ZYc; rw [Z0a, Z0a]; refine Zeb (fun s : Int => ∃ k : Nat, s = (k : Int) ∧ k ≤ l.length ∧ (l.take k).any (fun x => decide (x.num.sign ≤ 0)) = false) (fun s => l.length - s.toNat)
      (fun r : Int ⊕ Unit => (∃ k : Nat, r = .inl (k : Int) ∧ l.any (fun x => decide (x.num.sign ≤ 0)) = true) ∨ r = .inr () ∧ l.any (fun x => decide (x.num.sign ≤ 0)) = false) ⟨0, rfl, by omega, rfl⟩ (ZZa (by simp; omega)) ?_ ?_
  · rintro s ⟨k, rfl, hk, ha⟩; simp only; by_cases h : k < l.length
    · rw [decide_eq_true (by omega), Z1, Zua h, Zh, Zh, Zh]; by_cases h2 : l[k].num.sign ≤ 0
      · right; rw [decide_eq_true h2, Z1]; exact ⟨_, rfl, .inl ⟨k, rfl, List.any_eq_true.2 ⟨l[k], List.getElem_mem h, decide_eq_true h2⟩⟩⟩
      · left; rw [decide_eq_false h2, ZY, ZJa (by omega) (by omega), Zh]; refine ⟨_, rfl, ⟨k + 1, by simp, by omega, ?_⟩, by simp; omega⟩; rw [List.take_succ_eq_append_getElem h, List.any_append, ha]; simp only [List.any_cons, List.any_nil, Bool.or_false, Bool.false_or]; exact decide_eq_false h2
    · right; rw [decide_eq_false (by omega), ZY]; rw [List.take_of_length_le (by omega)] at ha; exact ⟨_, rfl, .inr ⟨rfl, ha⟩⟩
  · rintro r (⟨k, rfl, h⟩ | ⟨rfl, h⟩)
    · rw [h]; simp only [Zh]; exact congrArg some (decide_eq_true (by omega))
    · rw [h]; rfl
theorem ZPn (l : List Rat) (hl : l.length ≤ 4611686018427387904) : Ztf l () = some (l.any fun x => decide (x.num.sign < 0)) := by
  unfold Ztf Zkh ZVg ZYc; rw [Z0a, Z0a]; refine Zeb (fun s : Int => ∃ k : Nat, s = (k : Int) ∧ k ≤ l.length ∧ (l.take k).any (fun x => decide (x.num.sign < 0)) = false) (fun s => l.length - s.toNat)
      (fun r : Int ⊕ Unit => (∃ k : Nat, r = .inl (k : Int) ∧ l.any (fun x => decide (x.num.sign < 0)) = true) ∨ r = .inr () ∧ l.any (fun x => decide (x.num.sign < 0)) = false) ⟨0, rfl, by omega, rfl⟩ (ZZa (by simp; omega)) ?_ ?_
  · rintro s ⟨k, rfl, hk, ha⟩; simp only; by_cases h : k < l.length
    · rw [decide_eq_true (by omega), Z1, Zua h, Zh, Zh, Zh]; by_cases h2 : l[k].num.sign < 0
      · right; rw [decide_eq_true h2, Z1]; exact ⟨_, rfl, .inl ⟨k, rfl, List.any_eq_true.2 ⟨l[k], List.getElem_mem h, decide_eq_true h2⟩⟩⟩
      · left; rw [decide_eq_false h2, ZY, ZJa (by omega) (by omega), Zh]; refine ⟨_, rfl, ⟨k + 1, by simp, by omega, ?_⟩, by simp; omega⟩; rw [List.take_succ_eq_append_getElem h, List.any_append, ha]; simp only [List.any_cons, List.any_nil, Bool.or_false, Bool.false_or]; exact decide_eq_false h2
    · right; rw [decide_eq_false (by omega), ZY]; rw [List.take_of_length_le (by omega)] at ha; exact ⟨_, rfl, .inr ⟨rfl, ha⟩⟩
  · rintro r (⟨k, rfl, h⟩ | ⟨rfl, h⟩)
    · rw [h]; simp only [Zh]; exact congrArg some (decide_eq_true (by omega))
    · rw [h]; rfl
theorem ZHl (l : List Rat) (hl : l.length ≤ 4611686018427387904) : Z1e l = some (l.all fun x => decide (0 < x)) := by
  unfold Z1e; rw [Znm l hl, Zh, List.not_any_eq_all_not]; congr 2
  funext x
  rw [Bool.eq_iff_iff]; simp only [Bool.not_eq_true', decide_eq_false_iff_not, decide_eq_true_iff, Zaj]; grind
theorem Z9n (l : List Rat) (hl : l.length ≤ 4611686018427387904) : Ztg l = some (l.any fun x => decide (x < 0)) := by
  unfold Ztg; rw [ZPn l hl, Zh]; congr 2
  funext x
  exact decide_eq_decide.2 ZHo
theorem Z1m (a b c : Rat) : Zpf (a, b, c) = some (decide (0 < a ∧ 0 < b ∧ 0 < c)) := by
  unfold Zpf Zye; simp only [Zh]; by_cases h1 : 0 < a
  · rw [decide_eq_true (ZRe.2 h1), Z1]; by_cases h2 : 0 < b
    · rw [decide_eq_true (ZRe.2 h2), Z1, Zh]; exact congrArg some (decide_eq_decide.2 (by rw [ZRe]; simp [h1, h2]))
    · rw [decide_eq_false (fun h => h2 (ZRe.1 h)), ZY, Zh, decide_eq_false (fun h => h2 h.2.1)]
  · rw [decide_eq_false (fun h => h1 (ZRe.1 h)), ZY, Zh, decide_eq_false (fun h => h1 h.1)]
theorem Zhl (a b c : Rat) : ZYe (a, b, c) = some (decide (0 < a ∧ 0 < b ∧ 0 < c)) := by
  unfold ZYe; rw [ZHl _ (by simp), Zh]; congr 1; rw [Bool.eq_iff_iff]; simp
theorem drum_eq (d : (Int × Int) × (Int × Int) × (Int × Int)) : Z9e d = some ((ZMb d.1, ZMb d.2.1, ZMb d.2.2), (ZMb d.1, ZMb d.2.1, ZMb d.2.2)) := by
  unfold Z9e Zfc ZJd; simp only [Zh]
theorem Zll {k m : Nat} {x y : Rat} (h : sz k x) (h' : sz m y) (hk : k + m ≤ 1000000000) (hy : y ≠ 0) : ZPd x y = some (x / y) := by
  unfold ZPd; rw [ZEj h h' hk hy, Zh]
theorem Zln (n : Int) : ZAc n = some (n : Rat) := by unfold ZAc Z5c; rw [Zh]
theorem Zlm {k : Nat} {a b c x y : Rat} (ha : sz k a) (hb : sz k b) (hx : sz k x) (hy : sz k y) (hk : k ≤ 10000000) (p : 0 < a ∧ 0 < b ∧ 0 < c) : Zff (a, b, c) x y = some ((x - y) * (((1 : Int) : Rat) + b / a), 0) := by
  unfold Zff; have hne : a ≠ 0 := by grind
  have s1 := Zph hx hy; have s2 := Z8k hb ha; have s3 := Zdf (Z9i (n := 1) (by omega)) s2; simp only; rw [Zhl, Zh, decide_eq_true p]; simp only [Bool.not_true, ZY]; rw [Zdi hx hy (by omega), Zh, Zln, Zh, Zll hb ha (by omega) hne, Zh, ZPe (Z9i (n := 1) (by omega)) s2 (by omega), Zh, ZPg s1 s3 (by omega), Zh]
theorem ZTl {k : Nat} {a b c x y : Rat} (ha : sz k a) (hx : sz k x) (hy : sz k y) (hk : k ≤ 10000000) (p : 0 < a ∧ 0 < b ∧ 0 < c) : Zdg (a, b, c) x y = some ((x - y) / a, 0) := by
  unfold Zdg; have hne : a ≠ 0 := by grind
  have s1 := Zph hx hy; simp only; rw [Zhl, Zh, decide_eq_true p]; simp only [Bool.not_true, ZY]; rw [Zdi hx hy (by omega), Zh, Zll s1 ha (by omega) hne, Zh]
theorem Zwo {k : Nat} {x u v : Rat} (hx : sz k x) (hu : sz k u) (hv : sz k v) (hk : k ≤ 10000000) (h1 : 0 ≤ u) (h2 : 0 ≤ v) : ZCf x u x v = some (true, 0) := by
  unfold ZCf; have e1 : ([u, v].any fun x => decide (x < 0)) = false := by
    simp; constructor <;> grind
  have s1 := Zph hx hu; have s2 := Zdf hx hv; have s3 := Zph hx hv; have s4 := Zdf hx hu; have g1 : (x - u - (x + v)).num.sign ≤ 0 := Zaj.2 (by grind); have g2 : (x - v - (x + u)).num.sign ≤ 0 := Zaj.2 (by grind); rw [Z9n _ (by simp), Zh, e1, ZY, Zdi hx hu (by omega), Zh, ZPe hx hv (by omega), Zh, Zqj s1 s2 (by omega), Zh, decide_eq_true g1, Z1, Zdi hx hv (by omega), Zh, ZPe hx hu (by omega), Zh, Zqj s3 s4 (by omega), Zh, decide_eq_true g2, Zh]
theorem ZIm {d : (Int × Int) × (Int × Int) × (Int × Int)} {r s e1 e2 : Int × Int} (h1 : i64 d.1) (h2 : i64 d.2.1) (h3 : i64 d.2.2) (hr : i64 r) (hs : i64 s) (hE1 : i64 e1) (hE2 : i64 e2) : Z7h d r s e1 e2 = some true := by
  unfold Z7h; simp only; rw [drum_eq, Zh]; simp only; rw [Z1m, Zh]; have za := Zgf h1; have zb := Zgf h2; have zr := Zgf hr; have zs := Zgf hs; have z1 := Zgf hE1; have z2 := Zgf hE2; unfold Zfc; generalize ZMb d.1 = a at *; generalize ZMb d.2.1 = b at *; generalize ZMb d.2.2 = c at *; generalize ZMb r = ρ at *; generalize ZMb s = σ at *; generalize ZMb e1 = u at *; generalize ZMb e2 = v at *; by_cases p : 0 < a ∧ 0 < b ∧ 0 < c
  · rw [decide_eq_true p]; simp only [Bool.not_true, ZY, Zh]; have hab : a + b ≠ 0 := by grind
    have s1 := Zdj zr za; have s2 := Zdf za zb; have s3 := Z8k s1 s2; have s4 := Zdf s3 zs; have s5 := Zdf s1 zs; rw [ZPg zr za (by omega), Zh, ZPe za zb (by omega), Zh, ZEj s1 s2 (by omega) hab, Zh, Zh]; simp only; have f1 := Zlm (k := 1000) (c := c) (za.mono (by omega)) (zb.mono (by omega)) (s4.mono (by omega)) (zs.mono (by omega)) (by omega) p; rw [ZPe s3 zs (by omega), Zh, f1, Zh, Zh]; simp only; have f2 := ZTl (k := 1000) (b := b) (c := c) (za.mono (by omega)) (s5.mono (by omega)) (zs.mono (by omega)) (by omega) p; rw [Zh, ZPe s1 zs (by omega), Zh, f2, Zh, Zh]; simp only; have x1 : (ρ * a / (a + b) + σ - σ) * (((1 : Int) : Rat) + b / a) = ρ := by grind
    have x2 : (ρ * a + σ - σ) / a = ρ := by grind
    rw [x1, x2]; have f3 := Zwo (k := 1000) (x := ρ) (u := u * u) (v := v * v) (zr.mono (by omega)) ((Zdj z1 z1).mono (by omega)) ((Zdj z2 z2).mono (by omega)) (by omega) (Zxj u) (Zxj v); rw [ZPg z1 z1 (by omega), Zh, ZPg z2 z2 (by omega), Zh, f3, Zh]; unfold ZIe; rw [Zck]; simp [ifb, bnd]
  · rw [decide_eq_false p]; simp only [Bool.not_false, Z1]; rw [Zck, Zh]
end Go.Eng
namespace Go.Eng
open Go.RowKit
theorem zl {a b : Nat} (h : Nat.ble a b = true := by rfl) : a ≤ b := Nat.le_of_ble_eq_true h
theorem wn {o : Oper} {y : Nat → Option Bool} (h : o.guard = none := by rfl) : Region.wanted o y = true := Zde h
section
variable {P : Program} {K : Nat} {w0 : Base} {v0 : Ze} {σ σ' : List (Nat × Value)} {ℓ : List Loc} {v : Ze} {a : Act} {w : World}
variable {ops : Array Oper} {Q : Exit → Act → World → Prop} {rest : List Oper}
theorem Zcl {t : Nat} {x : Value} : ∀ {σ : List (Nat × Value)}, look σ t = some x → (t, x) ∈ σ
  | [], h => by cases h
  | (k, y) :: r, h => by
    by_cases hk : k = t
    · subst hk; rw [ZUh rfl] at h; cases h; exact List.mem_cons_self ..
    · rw [Z9g hk] at h; exact List.mem_cons_of_mem _ (Zcl h)
theorem St.fr' (h : St K w0 v0 σ ℓ v a w) (k : σ'.map (fun p => look σ p.1) = σ'.map (fun p => some p.2)) : St K w0 v0 σ' ℓ v a w :=
  h.frame fun t x e => by
    have hm := Zcl e
    have : ∀ l : List (Nat × Value), l.map (fun p => look σ p.1) = l.map (fun p => some p.2) → (t, x) ∈ l → look σ t = some x := by
      intro l
      induction l with
      | nil => intro _ h; cases h
      | cons p l ih =>
        intro hl hp; simp only [List.map_cons, List.cons.injEq] at hl; rcases List.mem_cons.1 hp with rfl | hp
        · exact hl.1
        · exact ih hl.2 hp
    exact this σ' k hm
theorem ov {o : Oper} {d : Nat} {x : Value} (hS : St K w0 v0 σ ℓ v a w) (hc : (o.dst, o.guard, Nat.ble (d + 1) K) = (some d, none, true)) (hrun : (execOp a.eval o).run P w = .ok (.value x) w)
    (h : ∀ a, St K w0 v0 ((d, x) :: σ) ℓ v a w → wpList P ops Q rest a w) : wpList P ops Q (o :: rest) a w :=
  ZG hS (Zde (Prod.mk.inj (Prod.mk.inj hc).2).1) (Prod.mk.inj hc).1 (Nat.le_of_ble_eq_true (Prod.mk.inj (Prod.mk.inj hc).2).2) hrun h
theorem mv {d : Nat} {x : Operand} {y : Value} {ty : TypeId} {pos : String} {aft : Array Edge} (hS : St K w0 v0 σ ℓ v a w) (hc : (ev σ x, Nat.ble (d + 1) K) = (some y, true))
    (h : ∀ a, St K w0 v0 ((d, y) :: σ) ℓ v a w → wpList P ops Q rest a w) : wpList P ops Q (⟨some d, .move x, ty, pos, aft, none⟩ :: rest) a w :=
  ZG hS (Zde rfl) rfl (Nat.le_of_ble_eq_true (Prod.mk.inj hc).2) (Zv hS (Prod.mk.inj hc).1) h
theorem mw {d : Nat} {x : Operand} {y : Value} {ty : TypeId} {pos : String} {aft : Array Edge} (hS : St K w0 v0 σ ℓ v a w) (hc : (ev σ x, Nat.ble (d + 1) K) = (some y, true))
    (h : ∀ a, St K w0 v0 ((d, y) :: σ) ℓ v a w → wpList P ops Q rest a w) : wpList P ops Q (⟨some d, .assign x, ty, pos, aft, none⟩ :: rest) a w :=
  ZG hS (Zde rfl) rfl (Nat.le_of_ble_eq_true (Prod.mk.inj hc).2) (Zqa hS (Prod.mk.inj hc).1) h
theorem sr {ops : Array Oper} {n : Nat} {y : Code} (h : wpList P ops (Exit.then (y.wp P Q) Q) ops.toList a w) : (Code.seq (.region n ops false) y).wp P Q a w := wp_seq (wp_region_lit h)
theorem oe {y : Code} (h : y.wp P Q a w) : wpList P ops (Exit.then (y.wp P Q) Q) [] a w := Zq (Zd h)
theorem rf {l : List Oper} {fl E : Array Bool} {o : Oper} {d : Nat} {x : Value} (hops : ops = l.toArray) (hF : OkF ops fl) (f : Nat) (hi : l[f]? = some o) (hc : (fl.getD f false && (Region.ready .any l.toArray E).contains f) = true) (h3 : (o.dst, o.guard, Nat.ble (d + 1) K) = (some d, none, true))
    (hS : St K w0 v0 σ ℓ v a w) (hrun : (execOp a.eval o).run P w = .ok (.value x) w) (h : ∀ a, St K w0 v0 ((d, x) :: σ) ℓ v a w → Rg P ops Q fl (E.setIfInBounds f true) a w) : Rg P ops Q fl E a w :=
  ZMk hops hF f hi ⟨(Bool.and_eq_true_iff.1 hc).1, (Bool.and_eq_true_iff.1 hc).2, rfl⟩ (Prod.mk.inj h3).1 (Nat.le_of_ble_eq_true (Prod.mk.inj (Prod.mk.inj h3).2).2) hS (Zde (Prod.mk.inj (Prod.mk.inj h3).2).1) hrun h
def Z5d (l : List Oper) (fl E : Array Bool) (p : Nat) (A J : List Nat) : Bool :=
  ZLd l.toArray p [] A && ((List.range l.length).all fun j => !(E.getD j false && fl.getD j false) || A.contains j || J.contains j)
theorem Zaf {l : List Oper} {fl E : Array Bool} {p : Nat} {A J : List Nat} (h : Z5d l fl E p A J = true) : okP l fl E (E.setIfInBounds p true) p A J = true := by
  unfold okP; unfold Z5d at h; rw [h]; simp
theorem nv {l : List Oper} {fl E : Array Bool} {p d : Nat} {o : Oper} {x : Value} (A J : List Nat) (hops : ops = l.toArray) (hi : l[p]? = some o) (hP : Z5d l fl E p A J = true) (h3 : (o.dst, o.guard, Nat.ble (d + 1) K) = (some d, none, true)) (hS : St K w0 v0 σ ℓ v a w)
    (hrun : (execOp a.eval o).run P w = .ok (.value x) w) (h : ∀ a, St K w0 v0 ((d, x) :: σ) ℓ v a w → ZFb P ops l a w J ∧ Rg P ops Q fl (E.setIfInBounds p true) a w) : Zwb P ops Q fl E a w p :=
  nx_v A J hops hi (Zaf hP) hS (Zde (Prod.mk.inj (Prod.mk.inj h3).2).1) (Prod.mk.inj h3).1 (Nat.le_of_ble_eq_true (Prod.mk.inj (Prod.mk.inj h3).2).2) hrun h
theorem py {l : List Oper} {J : List Nat} {j d : Nat} {o : Oper} {x : Value} (hS : St K w0 v0 σ ℓ v a w) (hi : l[j]? = some o) (h3 : (o.dst, look σ d, o.guard) = (some d, some x, none)) (hrun : (execOp a.eval o).run P w = .ok (.value x) w)
    (r : ZFb P ops l a w J) : ZFb P ops l a w (j :: J) := Zzi hS hi (Prod.mk.inj h3).1 (Prod.mk.inj (Prod.mk.inj h3).2).1 (Zde (Prod.mk.inj (Prod.mk.inj h3).2).2) hrun r
theorem ZE {l : List Oper} {fl E : Array Bool} {p d : Nat} {o : Oper} {f : FuncId} {args : Array Value} {R : Value → Ze → Prop} (A J : List Nat) (hops : ops = l.toArray) (hi : l[p]? = some o) (hP : Z5d l fl E p A J = true) (hS : St K w0 v0 σ ℓ v a w) (hw : Region.wanted o (yielded ops a.tmps) = true) (hd : o.dst = some d) (hK : d < K)
    (hrun : (execOp a.eval o).run P w = .ok (.enter f args) w) (hc : Ret P f args w v R)
    (h : ∀ x v' a w, v.le v' → R x v' → St K w0 v0 ((d, x) :: σ) ℓ v' a w → ZFb P ops l a w J ∧ Rg P ops Q fl (E.setIfInBounds p true) a w) : Zwb P ops Q fl E a w p := nx_call A J hops hi (Zaf hP) hS hw hd hK hrun hc h
theorem Zoa {l : List Oper} {fl E : Array Bool} {p d : Nat} {o : Oper} {T : TypeId} {cs : List Value} (A J : List Nat) (hops : ops = l.toArray) (hi : l[p]? = some o) (hP : Z5d l fl E p A J = true) (hS : St K w0 v0 σ ℓ v a w) (hw : Region.wanted o (yielded ops a.tmps) = true) (hd : o.dst = some d) (hK : d < K)
    (hrun : (execOp a.eval o).run P w = .ok (.value (.pointer (some ⟨w.heap.size, 0, none⟩))) (w.alloc (.cells cs.toArray T)))
    (h : ∀ b a w, St K w0 v0 ((d, .pointer (some ⟨b, 0, none⟩)) :: σ) (.box b T cs :: ℓ) v a w → ZFb P ops l a w J ∧ Rg P ops Q fl (E.setIfInBounds p true) a w) : Zwb P ops Q fl E a w p := nx_new A J hops hi (Zaf hP) hS hw hd hK hrun h
theorem Zzd {l : List Oper} {fl E : Array Bool} {p d : Nat} {o : Oper} {x : Value} {w' : World} {ℓ' : List Loc} {v' : Ze} (A J : List Nat) (hops : ops = l.toArray) (hi : l[p]? = some o) (hP : Z5d l fl E p A J = true) (hw : Region.wanted o (yielded ops a.tmps) = true) (hd : o.dst = some d) (hK : d < K)
    (hrun : (execOp a.eval o).run P w = .ok (.value x) w') (hS : St K w0 v0 σ ℓ' v' a w') (h : ∀ a, St K w0 v0 ((d, x) :: σ) ℓ' v' a w' → ZFb P ops l a w' J ∧ Rg P ops Q fl (E.setIfInBounds p true) a w') : Zwb P ops Q fl E a w p := nx_ex A J hops hi (Zaf hP) hw hd hK hrun hS h
theorem Z6 {l : List Oper} {fl E : Array Bool} {p : Nat} {o : Oper} {w' : World} (A J : List Nat) (hops : ops = l.toArray) (hi : l[p]? = some o) (hP : Z5d l fl E p A J = true) (hw : Region.wanted o (yielded ops a.tmps) = true) (hd : o.dst = none)
    (hrun : (execOp a.eval o).run P w = .ok .skip w') (h : ZFb P ops l a w' J ∧ Rg P ops Q fl (E.setIfInBounds p true) a w') : Zwb P ops Q fl E a w p := nx_skip A J hops hi (Zaf hP) hw hd hrun h
theorem ZDh {l : List Oper} {fl E : Array Bool} {p d : Nat} {o : Oper} (A J : List Nat) (hops : ops = l.toArray) (hi : l[p]? = some o) (hP : Z5d l fl E p A J = true) (hS : St K w0 v0 σ ℓ v a w) (hw : Region.wanted o (yielded ops a.tmps) = false) (hd : o.dst = some d) (hK : d < K)
    (h : ∀ a, St K w0 v0 ((d, undef) :: σ) ℓ v a w → ZFb P ops l a w J ∧ Rg P ops Q fl (E.setIfInBounds p true) a w) : Zwb P ops Q fl E a w p := nx_no A J hops hi (Zaf hP) hS hw hd hK h
theorem ZCc {l : List Oper} {fl E : Array Bool} {o : Oper} {d : Nat} (hops : ops = l.toArray) (hF : OkF ops fl) (f : Nat) (hi : l[f]? = some o) (hc : (fl.getD f false && (Region.ready .any l.toArray E).contains f) = true) (hd : o.dst = some d) (hK : d < K)
    (hS : St K w0 v0 σ ℓ v a w) (hw : Region.wanted o (yielded ops a.tmps) = false) (h : ∀ a, St K w0 v0 ((d, undef) :: σ) ℓ v a w → Rg P ops Q fl (E.setIfInBounds f true) a w) : Rg P ops Q fl E a w := Zon hops hF f hi ⟨(Bool.and_eq_true_iff.1 hc).1, (Bool.and_eq_true_iff.1 hc).2, rfl⟩ hd hK hS hw h
theorem Zrc {l : List Oper} {fl E : Array Bool} {o : Oper} {d : Nat} {x : Value} (hops : ops = l.toArray) (hF : OkF ops fl) (f : Nat) (hi : l[f]? = some o) (hc : (fl.getD f false && (Region.ready .any l.toArray E).contains f) = true) (hd : o.dst = some d) (hK : d < K)
    (hS : St K w0 v0 σ ℓ v a w) (hw : Region.wanted o (yielded ops a.tmps) = true) (hrun : (execOp a.eval o).run P w = .ok (.value x) w) (h : ∀ a, St K w0 v0 ((d, x) :: σ) ℓ v a w → Rg P ops Q fl (E.setIfInBounds f true) a w) : Rg P ops Q fl E a w := ZMk hops hF f hi ⟨(Bool.and_eq_true_iff.1 hc).1, (Bool.and_eq_true_iff.1 hc).2, rfl⟩ hd hK hS hw hrun h
end
theorem ZC {α : Type} (A : Rep α) {v : Ze} {cs : List Value} {x : α} (h : A.rel v cs x) (hn : A.n = 3 := by rfl) : ∃ a b c, cs = [a, b, c] := by
  have hl := A.len h; rw [hn] at hl
  match cs, hl with
  | [a, b, c], _ => exact ⟨a, b, c, rfl⟩
end Go.Eng
namespace Go.Eng
open Go.RowKit
theorem Zi {α : Type _} {a b : α} (h : some a = some b) : a = b := Option.some.inj h
theorem ZI (b : Bool) : b = true ∨ b = false := (Bool.eq_false_or_eq_true b)
theorem leT {a b c : Ze} (h : a.le b) (k : b.le c) : a.le c := Ze.le_trans h k
theorem leR (v : Ze) : v.le v := Ze.le_refl v
theorem Zr {P : Program} {Q : Exit → Act → World → Prop} {a : Act} {w : World} {id : Nat} {l : List Oper} (h : wpList P l.toArray Q l a w) : (Code.region id l.toArray false).wp P Q a w := wp_region_lit h
theorem Zj {P : Program} {Q : Exit → Act → World → Prop} {a : Act} {w : World} {x y : Code} (h : ∀ K : Act → World → Prop, (∀ a w, y.wp P Q a w → K a w) → x.wp P (Exit.then K Q) a w) : (Code.seq x y).wp P Q a w := wp_seq_k h
theorem Za {α : Type} {A : Rep α} {v v' : Ze} {cs : List Value} {x : α} (hv : v.le v') (h : A.rel v cs x) : A.rel v' cs x := A.mono hv h
theorem Z8 {α : Type} (A : Rep α) {v : Ze} {cs : List Value} {x : α} (h : A.rel v cs x) : cs.all Zea = true := A.flat h
theorem Atm {v v' : Ze} {b off : Nat} {cs : List Value} (h : v.le v') (k : At v b off cs) : At v' b off cs := At.mono h k
end Go.Eng
namespace Go.Eng
open Go.Proofs Go.RowKit
theorem Z7k : ZLf Tryz.prog 291 20 1 := ⟨5, fun _ => by kernel_rfl, fun _ => by kernel_rfl⟩
theorem Zzb : ZLf Tryz.prog 51 3 2 := ⟨50, fun _ => by kernel_rfl, fun _ => by kernel_rfl⟩
theorem Zdd : Z0d Tryz.prog 211 212 .u64 .u32 := fun _ _ => by kernel_rfl
theorem Zvk : Z0d Tryz.prog 211 5 .u64 .u8 := fun _ _ => by kernel_rfl
theorem Zlj : Z0d Tryz.prog 212 2 .u32 .i64 := fun _ _ => by kernel_rfl
theorem Zwc : Z0d Tryz.prog 212 211 .u32 .u64 := fun _ _ => by kernel_rfl
theorem ZHh : Z0d Tryz.prog 2 211 .i64 .u64 := fun _ _ => by kernel_rfl
theorem Zto : Z0d Tryz.prog 2 212 .i64 .u32 := fun _ _ => by kernel_rfl
theorem ZFi : Z0d Tryz.prog 3 253 .i64 .u64 := fun _ _ => by kernel_rfl
theorem k_cv5_3 : Z0d Tryz.prog 5 3 .u8 .i64 := fun _ _ => by kernel_rfl
theorem Zpj : Elem Tryz.prog 263 9 1 16 (Value.string (Zra [])) := ⟨Tryz.underlying263, by kernel_rfl, rfl, by decide⟩
theorem Zlg : Elem Tryz.prog 28 3 1 8 (Value.int IntKind.i64 0) := ⟨Tryz.underlying28, by kernel_rfl, rfl, by decide⟩
theorem Zjc : Elem Tryz.prog 30 211 1 8 (Value.int IntKind.u64 0) := ⟨Tryz.underlying30, by kernel_rfl, rfl, by decide⟩
theorem Z0b : Elem Tryz.prog 40 212 1 4 (Value.int IntKind.u32 0) := ⟨Tryz.underlying40, by kernel_rfl, rfl, by decide⟩
theorem ZUi : Elem Tryz.prog 80 34 3 56 (Value.agg #[Value.bool false, Value.slice none 0 0, Value.slice none 0 0]) := ⟨Tryz.underlying80, by kernel_rfl, rfl, by decide⟩
theorem Zel : Elem Tryz.prog 85 42 3 56 (Value.agg #[Value.bool false, Value.slice none 0 0, Value.slice none 0 0]) := ⟨Tryz.underlying85, by kernel_rfl, rfl, by decide⟩
theorem k_en100 : Z3 Tryz.prog 100 := fun _ _ => by kernel_rfl
theorem Z6d : Z3 Tryz.prog 101 := fun _ _ => by kernel_rfl
theorem Z7f : Z3 Tryz.prog 102 := fun _ _ => by kernel_rfl
theorem Zuf : Z3 Tryz.prog 103 := fun _ _ => by kernel_rfl
theorem Zjd : Z3 Tryz.prog 104 := fun _ _ => by kernel_rfl
theorem k_en105 : Z3 Tryz.prog 105 := fun _ _ => by kernel_rfl
theorem ZIk : Z3 Tryz.prog 106 := fun _ _ => by kernel_rfl
theorem k_en107 : Z3 Tryz.prog 107 := fun _ _ => by kernel_rfl
theorem k_en108 : Z3 Tryz.prog 108 := fun _ _ => by kernel_rfl
theorem k_en109 : Z3 Tryz.prog 109 := fun _ _ => by kernel_rfl
theorem Z7i : Z3 Tryz.prog 110 := fun _ _ => by kernel_rfl
theorem k_en112 : Z3 Tryz.prog 112 := fun _ _ => by kernel_rfl
theorem Zpi : Z3 Tryz.prog 114 := fun _ _ => by kernel_rfl
theorem ZFk : Z3 Tryz.prog 115 := fun _ _ => by kernel_rfl
theorem k_en119 : Z3 Tryz.prog 119 := fun _ _ => by kernel_rfl
theorem k_en120 : Z3 Tryz.prog 120 := fun _ _ => by kernel_rfl
theorem k_en121 : Z3 Tryz.prog 121 := fun _ _ => by kernel_rfl
theorem Zfk : Z3 Tryz.prog 124 := fun _ _ => by kernel_rfl
theorem ZCg : Z3 Tryz.prog 126 := fun _ _ => by kernel_rfl
theorem k_en127 : Z3 Tryz.prog 127 := fun _ _ => by kernel_rfl
theorem ZCj : Z3 Tryz.prog 137 := fun _ _ => by kernel_rfl
theorem k_en138 : Z3 Tryz.prog 138 := fun _ _ => by kernel_rfl
theorem ZVd : Z3 Tryz.prog 139 := fun _ _ => by kernel_rfl
theorem k_en140 : Z3 Tryz.prog 140 := fun _ _ => by kernel_rfl
theorem k_en141 : Z3 Tryz.prog 141 := fun _ _ => by kernel_rfl
theorem k_en144 : Z3 Tryz.prog 144 := fun _ _ => by kernel_rfl
theorem Z6h : Z3 Tryz.prog 145 := fun _ _ => by kernel_rfl
theorem ZWh : Z3 Tryz.prog 146 := fun _ _ => by kernel_rfl
theorem Zni : Z3 Tryz.prog 147 := fun _ _ => by kernel_rfl
theorem Zhd : Z3 Tryz.prog 149 := fun _ _ => by kernel_rfl
theorem Zkj : Z3 Tryz.prog 15 := fun _ _ => by kernel_rfl
theorem Zkk : Z3 Tryz.prog 150 := fun _ _ => by kernel_rfl
theorem ZTk : Z3 Tryz.prog 151 := fun _ _ => by kernel_rfl
theorem Zil : Z3 Tryz.prog 152 := fun _ _ => by kernel_rfl
theorem k_en153 : Z3 Tryz.prog 153 := fun _ _ => by kernel_rfl
theorem k_en154 : Z3 Tryz.prog 154 := fun _ _ => by kernel_rfl
theorem Z8i : Z3 Tryz.prog 155 := fun _ _ => by kernel_rfl
theorem Z2d : Z3 Tryz.prog 156 := fun _ _ => by kernel_rfl
theorem k_en157 : Z3 Tryz.prog 157 := fun _ _ => by kernel_rfl
theorem ZLi : Z3 Tryz.prog 158 := fun _ _ => by kernel_rfl
theorem k_en159 : Z3 Tryz.prog 159 := fun _ _ => by kernel_rfl
theorem k_en161 : Z3 Tryz.prog 161 := fun _ _ => by kernel_rfl
theorem Zsj : Z3 Tryz.prog 167 := fun _ _ => by kernel_rfl
theorem k_en168 : Z3 Tryz.prog 168 := fun _ _ => by kernel_rfl
theorem k_en169 : Z3 Tryz.prog 169 := fun _ _ => by kernel_rfl
theorem k_en17 : Z3 Tryz.prog 17 := fun _ _ => by kernel_rfl
theorem k_en170 : Z3 Tryz.prog 170 := fun _ _ => by kernel_rfl
theorem k_en171 : Z3 Tryz.prog 171 := fun _ _ => by kernel_rfl
theorem k_en172 : Z3 Tryz.prog 172 := fun _ _ => by kernel_rfl
theorem k_en173 : Z3 Tryz.prog 173 := fun _ _ => by kernel_rfl
theorem k_en174 : Z3 Tryz.prog 174 := fun _ _ => by kernel_rfl
theorem k_en175 : Z3 Tryz.prog 175 := fun _ _ => by kernel_rfl
theorem Zvj : Z3 Tryz.prog 176 := fun _ _ => by kernel_rfl
theorem ZLh : Z3 Tryz.prog 177 := fun _ _ => by kernel_rfl
theorem k_en178 : Z3 Tryz.prog 178 := fun _ _ => by kernel_rfl
theorem k_en179 : Z3 Tryz.prog 179 := fun _ _ => by kernel_rfl
theorem k_en181 : Z3 Tryz.prog 181 := fun _ _ => by kernel_rfl
theorem ZTj : Z3 Tryz.prog 182 := fun _ _ => by kernel_rfl
theorem k_en183 : Z3 Tryz.prog 183 := fun _ _ => by kernel_rfl
theorem k_en184 : Z3 Tryz.prog 184 := fun _ _ => by kernel_rfl
theorem k_en185 : Z3 Tryz.prog 185 := fun _ _ => by kernel_rfl
theorem Zfe : Z3 Tryz.prog 19 := fun _ _ => by kernel_rfl
theorem Ztk : Z3 Tryz.prog 190 := fun _ _ => by kernel_rfl
theorem k_en196 : Z3 Tryz.prog 196 := fun _ _ => by kernel_rfl
theorem k_en197 : Z3 Tryz.prog 197 := fun _ _ => by kernel_rfl
theorem k_en198 : Z3 Tryz.prog 198 := fun _ _ => by kernel_rfl
theorem Z4d : Z3 Tryz.prog 20 := fun _ _ => by kernel_rfl
theorem k_en21 : Z3 Tryz.prog 21 := fun _ _ => by kernel_rfl
theorem Znk : Z3 Tryz.prog 26 := fun _ _ => by kernel_rfl
theorem k_en27 : Z3 Tryz.prog 27 := fun _ _ => by kernel_rfl
theorem ZRa : Z3 Tryz.prog 28 := fun _ _ => by kernel_rfl
theorem ZOc : Z3 Tryz.prog 29 := fun _ _ => by kernel_rfl
theorem Z9c : Z3 Tryz.prog 30 := fun _ _ => by kernel_rfl
theorem Z8b : Z3 Tryz.prog 31 := fun _ _ => by kernel_rfl
theorem Zre : Z3 Tryz.prog 32 := fun _ _ => by kernel_rfl
theorem Z5h : Z3 Tryz.prog 33 := fun _ _ => by kernel_rfl
theorem k_en34 : Z3 Tryz.prog 34 := fun _ _ => by kernel_rfl
theorem ZSf : Z3 Tryz.prog 35 := fun _ _ => by kernel_rfl
theorem Z4e : Z3 Tryz.prog 37 := fun _ _ => by kernel_rfl
theorem k_en52 : Z3 Tryz.prog 52 := fun _ _ => by kernel_rfl
theorem k_en54 : Z3 Tryz.prog 54 := fun _ _ => by kernel_rfl
theorem Z4g : Z3 Tryz.prog 61 := fun _ _ => by kernel_rfl
theorem Z3e : Z3 Tryz.prog 62 := fun _ _ => by kernel_rfl
theorem ZJh : Z3 Tryz.prog 64 := fun _ _ => by kernel_rfl
theorem Zjg : Z3 Tryz.prog 80 := fun _ _ => by kernel_rfl
theorem k_en81 : Z3 Tryz.prog 81 := fun _ _ => by kernel_rfl
theorem Z6j : Z3 Tryz.prog 82 := fun _ _ => by kernel_rfl
theorem ZWc : Z3 Tryz.prog 84 := fun _ _ => by kernel_rfl
theorem Zuc : Z3 Tryz.prog 85 := fun _ _ => by kernel_rfl
theorem Z2g : Z3 Tryz.prog 86 := fun _ _ => by kernel_rfl
theorem ZGe : Z3 Tryz.prog 87 := fun _ _ => by kernel_rfl
theorem Zsh : Z3 Tryz.prog 88 := fun _ _ => by kernel_rfl
theorem k_en89 : Z3 Tryz.prog 89 := fun _ _ => by kernel_rfl
theorem k_en90 : Z3 Tryz.prog 90 := fun _ _ => by kernel_rfl
theorem k_en98 : Z3 Tryz.prog 98 := fun _ _ => by kernel_rfl
theorem Zyf : Z3 Tryz.prog 99 := fun _ _ => by kernel_rfl
theorem ZIg : EqB Tryz.prog 4 := fun _ _ _ => by kernel_rfl
theorem Zmf : ZOe Tryz.prog 148 add64Entry := ⟨_, Tryz.func148, by kernel_rfl, by kernel_rfl, by kernel_rfl, by kernel_rfl⟩
theorem ZVj : ZOe Tryz.prog 180 ZBi := ⟨_, Tryz.func180, by kernel_rfl, by kernel_rfl, by kernel_rfl, by kernel_rfl⟩
theorem ZZj : ZZb Tryz.prog 100 0 0 := fun _ _ _ => by kernel_rfl
theorem Zwe : ZZb Tryz.prog 100 1 3 := fun _ _ _ => by kernel_rfl
theorem Zab : ZZb Tryz.prog 32 0 0 := fun _ _ _ => by kernel_rfl
theorem Z7a : ZZb Tryz.prog 32 1 1 := fun _ _ _ => by kernel_rfl
theorem Z3a : ZZb Tryz.prog 34 0 0 := fun _ _ _ => by kernel_rfl
theorem Zsb : ZZb Tryz.prog 34 1 2 := fun _ _ _ => by kernel_rfl
theorem ZWi : ZZb Tryz.prog 42 0 0 := fun _ _ _ => by kernel_rfl
theorem ZEi : ZZb Tryz.prog 42 1 1 := fun _ _ _ => by kernel_rfl
theorem Zrh : ZZb Tryz.prog 50 0 0 := fun _ _ _ => by kernel_rfl
theorem Zjh : ZZb Tryz.prog 50 1 1 := fun _ _ _ => by kernel_rfl
theorem Zrb : ZZb Tryz.prog 53 0 0 := fun _ _ _ => by kernel_rfl
theorem Z3c : ZZb Tryz.prog 53 1 3 := fun _ _ _ => by kernel_rfl
theorem Zrl : ZZb Tryz.prog 53 2 6 := fun _ _ _ => by kernel_rfl
theorem ZOi : ZZb Tryz.prog 55 0 0 := fun _ _ _ => by kernel_rfl
theorem ZZk : ZZb Tryz.prog 55 1 3 := fun _ _ _ => by kernel_rfl
theorem ZXl : ZZb Tryz.prog 55 2 6 := fun _ _ _ => by kernel_rfl
theorem Zza : Tryz.prog.follows .mixedOrders = true := by kernel_rfl
theorem Zag : NeB Tryz.prog 4 := fun _ _ _ => by kernel_rfl
theorem Znb : ZEc Tryz.prog 22 28 1 := ⟨fun _ => by kernel_rfl, fun _ => by kernel_rfl⟩
theorem ZXi : ZEc Tryz.prog 263 9 1 := ⟨fun _ => by kernel_rfl, fun _ => by kernel_rfl⟩
theorem Z6b : ZEc Tryz.prog 28 3 1 := ⟨fun _ => by kernel_rfl, fun _ => by kernel_rfl⟩
theorem ZZ : ZEc Tryz.prog 30 211 1 := ⟨fun _ => by kernel_rfl, fun _ => by kernel_rfl⟩
theorem Zta : ZEc Tryz.prog 40 212 1 := ⟨fun _ => by kernel_rfl, fun _ => by kernel_rfl⟩
theorem Zxc : ZEc Tryz.prog 80 34 3 := ⟨fun _ => by kernel_rfl, fun _ => by kernel_rfl⟩
theorem Zyj : ZEc Tryz.prog 96 50 2 := ⟨fun _ => by kernel_rfl, fun _ => by kernel_rfl⟩
theorem Zbe : Sized Tryz.prog 100 4 true := ⟨fun _ => by kernel_rfl, fun _ => by kernel_rfl⟩
theorem ZQi : Sized Tryz.prog 102 4 true := ⟨fun _ => by kernel_rfl, fun _ => by kernel_rfl⟩
theorem Z7d : Sized Tryz.prog 2 1 false := ⟨fun _ => by kernel_rfl, fun _ => by kernel_rfl⟩
theorem ZDa : Sized Tryz.prog 211 1 false := ⟨fun _ => by kernel_rfl, fun _ => by kernel_rfl⟩
theorem Zpb : Sized Tryz.prog 212 1 false := ⟨fun _ => by kernel_rfl, fun _ => by kernel_rfl⟩
theorem ZMd : Sized Tryz.prog 22 1 false := ⟨fun _ => by kernel_rfl, fun _ => by kernel_rfl⟩
theorem Zfi : Sized Tryz.prog 28 1 false := ⟨fun _ => by kernel_rfl, fun _ => by kernel_rfl⟩
theorem Zyc : Sized Tryz.prog 3 1 false := ⟨fun _ => by kernel_rfl, fun _ => by kernel_rfl⟩
theorem Zva : Sized Tryz.prog 30 1 false := ⟨fun _ => by kernel_rfl, fun _ => by kernel_rfl⟩
theorem ZOa : Sized Tryz.prog 32 2 true := ⟨fun _ => by kernel_rfl, fun _ => by kernel_rfl⟩
theorem Zo : Sized Tryz.prog 34 3 true := ⟨fun _ => by kernel_rfl, fun _ => by kernel_rfl⟩
theorem Z1a : Sized Tryz.prog 4 1 false := ⟨fun _ => by kernel_rfl, fun _ => by kernel_rfl⟩
theorem ZMi : Sized Tryz.prog 40 1 false := ⟨fun _ => by kernel_rfl, fun _ => by kernel_rfl⟩
theorem Zib : Sized Tryz.prog 42 3 true := ⟨fun _ => by kernel_rfl, fun _ => by kernel_rfl⟩
theorem k_sz5 : Sized Tryz.prog 5 1 false := ⟨fun _ => by kernel_rfl, fun _ => by kernel_rfl⟩
theorem ZW : Sized Tryz.prog 50 2 true := ⟨fun _ => by kernel_rfl, fun _ => by kernel_rfl⟩
theorem k_sz51 : Sized Tryz.prog 51 6 true := ⟨fun _ => by kernel_rfl, fun _ => by kernel_rfl⟩
theorem Z8a : Sized Tryz.prog 53 9 true := ⟨fun _ => by kernel_rfl, fun _ => by kernel_rfl⟩
theorem Z3f : Sized Tryz.prog 55 9 true := ⟨fun _ => by kernel_rfl, fun _ => by kernel_rfl⟩
theorem Zpe : Sized Tryz.prog 80 1 false := ⟨fun _ => by kernel_rfl, fun _ => by kernel_rfl⟩
theorem k_sz9 : Sized Tryz.prog 9 1 false := ⟨fun _ => by kernel_rfl, fun _ => by kernel_rfl⟩
theorem Z1k : ∀ w, (zeroValue 100).run Tryz.prog w = .ok (Value.agg #[Value.bool false, Value.slice none 0 0, Value.slice none 0 0, Value.slice none 0 0]) w := fun _ => by kernel_rfl
theorem Zjl : ∀ w, (zeroValue 102).run Tryz.prog w = .ok (Value.agg #[Value.bool false, Value.slice none 0 0, Value.slice none 0 0, Value.slice none 0 0]) w := fun _ => by kernel_rfl
theorem k_zv270 : ∀ w, (zeroValue 270).run Tryz.prog w = .ok (Value.agg #[Value.pointer none, Value.slice none 0 0]) w := fun _ => by kernel_rfl
theorem k_zv291 : ∀ w, (zeroValue 291).run Tryz.prog w = .ok (Value.agg #[Value.int IntKind.u8 0, Value.int IntKind.u8 0, Value.int IntKind.u8 0, Value.int IntKind.u8 0, Value.int IntKind.u8 0, Value.int IntKind.u8 0, Value.int IntKind.u8 0, Value.int IntKind.u8 0, Value.int IntKind.u8 0, Value.int IntKind.u8 0, Value.int IntKind.u8 0, Value.int IntKind.u8 0, Value.int IntKind.u8 0, Value.int IntKind.u8 0, Value.int IntKind.u8 0, Value.int IntKind.u8 0, Value.int IntKind.u8 0, Value.int IntKind.u8 0, Value.int IntKind.u8 0, Value.int IntKind.u8 0]) w := fun _ => by kernel_rfl
theorem ZNc : ∀ w, (zeroValue 32).run Tryz.prog w = .ok (Value.agg #[Value.bool false, Value.slice none 0 0]) w := fun _ => by kernel_rfl
theorem Zda : ∀ w, (zeroValue 34).run Tryz.prog w = .ok (Value.agg #[Value.bool false, Value.slice none 0 0, Value.slice none 0 0]) w := fun _ => by kernel_rfl
theorem Zue : ∀ w, (zeroValue 42).run Tryz.prog w = .ok (Value.agg #[Value.bool false, Value.slice none 0 0, Value.slice none 0 0]) w := fun _ => by kernel_rfl
theorem k_zv50 : ∀ w, (zeroValue 50).run Tryz.prog w = .ok (Value.agg #[Value.int IntKind.i64 0, Value.int IntKind.i64 0]) w := fun _ => by kernel_rfl
theorem Z0i : ∀ w, (zeroValue 53).run Tryz.prog w = .ok (Value.agg #[Value.bool false, Value.slice none 0 0, Value.slice none 0 0, Value.bool false, Value.slice none 0 0, Value.slice none 0 0, Value.bool false, Value.slice none 0 0, Value.slice none 0 0]) w := fun _ => by kernel_rfl
theorem Zgj : ∀ w, (zeroValue 55).run Tryz.prog w = .ok (Value.agg #[Value.bool false, Value.slice none 0 0, Value.slice none 0 0, Value.bool false, Value.slice none 0 0, Value.slice none 0 0, Value.bool false, Value.slice none 0 0, Value.slice none 0 0]) w := fun _ => by kernel_rfl
theorem cut_w {w0 : World} {v0 : Ze} (hv : VIn v0 w0) {c0 : List Value} {a : (List Int)} (p0 : Rep.rel (ZD (Zb .u64)) v0 c0 a) {z : (List Int)} (H : Zhh a = some z) : Ret Tryz.prog 149 #[(ZD (Zb .u64)).val c0] w0 v0 (fun y v' => ∃ r0, y = (ZD (Zb .u64)).val r0 ∧ (ZD (Zb .u64)).rel v' r0 z) := by
  obtain ⟨q1, n2, k3, rfl⟩ := ZYa p0; refine Z7 (K := 21) (args := [.slice q1 (n2) k3]) hv Tryz.func149 rfl rfl zl fun f S => ?_; unfold Zhh at H; refine sr ?_; have S := S.nilLoc 211 1; refine ov S rfl (Zqa S (y := .slice (mkA none) 0 0) rfl) fun f S => ?_; refine oe ?_; refine Zj fun _ hN9 => ?_; obtain ⟨ρ17, hc18, ho19⟩ := Zc H; refine Z4 (fun f w => ∃ (x11 : (List Int)) (q12 : Option Addr) (n13 : Nat) (k14 : Nat) (v16 : Ze), x11 = ρ17 ∧ Ze.le v0 v16 ∧ St 21 w0 v0 [(0, .slice q12 (n13) k14)] [] v16 f w ∧ Rep.rel (ZD (Zb .u64)) v16 [.slice q12 (n13) k14] x11) (fun _ hN21 => ?_) ?_
  · have H := hc18; refine wp_block ?_; obtain ⟨ρ38, hc39, ho40⟩ := Zc H; have S := S.fr' (σ' := [(0, .slice q1 (n2) k3)]) rfl; have S := S.reorder (ℓ' := []) [] rfl (by decide); refine ZHa hc39 (fun s88 f w => ∃ (x25 : (List Int)) (q26 : Option Addr) (n27 : Nat) (k28 : Nat) (v30 : Ze), x25 = s88 ∧ Ze.le v0 v30 ∧ St 21 w0 v0 [(0, .slice q26 (n27) k28)] [] v30 f w ∧ Rep.rel (ZD (Zb .u64)) v30 [.slice q26 (n27) k28] x25) ⟨_, _, _, _, _, rfl, (leR _), S, p0⟩ ?_; rintro _ f w st ⟨x25, q26, n27, k28, v30, hq, hl41, S, h29⟩ H N42 hN43 hO44; subst hq; refine Zj fun _ hN46 => ?_; refine Zj fun _ hN48 => ?_; obtain ⟨ρ52, hc53, ho54⟩ := Zc H; refine Z4 (fun f w => ∃ (x50 : Bool) (v51 : Ze), x50 = ρ52 ∧ Ze.le v30 v51 ∧ St 21 w0 v0 [(0, .slice q26 (n27) k28), (14, .bool (x50))] [] v51 f w) (fun _ hN56 => ?_) ?_
    · have H := hc53; rcases ZI (decide ((0 : Int) < (x25.length : Int))) with hb71 | hb71
      · have H := ZJ H hb71; obtain ⟨y72, e73, H⟩ := Zc H; obtain ⟨y74, e75, H⟩ := Zc H; refine Zr ?_; refine mv S rfl fun f S => ?_; refine ov S rfl (ZS S (ZB h29) rfl rfl ZZ) fun f S => ?_; refine ov S rfl (Zk S rfl rfl ZNa) fun f S => ?_; have S := S.bool (t := 5) rfl hb71; refine mv S rfl fun f S => ?_; refine ZG S (Zw S rfl rfl rfl zl) rfl zl (Zv S rfl) fun f S => ?_; refine ZG S (Zw S rfl rfl rfl zl) rfl zl (Zv S rfl) fun f S => ?_; refine ZG S (Zw S rfl rfl rfl zl) rfl zl (ZS S (ZB h29) rfl rfl ZZ) fun f S => ?_; refine ZG S (Zw S rfl rfl rfl zl) rfl zl (Zk S rfl rfl (ZLa e73)) fun f S => ?_; obtain ⟨_, b85, o86, c83, rfl, h84, h82⟩ := ZCa h29 (Zn e75).2.1; obtain ⟨rfl, r87⟩ := h82; refine ZG S (Zw S rfl rfl rfl zl) rfl zl (Z9 S rfl rfl ZZ (Zn e75).1 (ltI (ZB h29) (Zn e75).2.2.1)) fun f S => ?_; refine ZG S (Zw S rfl rfl rfl zl) rfl zl (Zy S rfl ZDa (S.view h84)) fun f S => ?_; refine ZG S (Zw S rfl rfl rfl zl) rfl zl (Zk S rfl rfl Zpa) fun f S => ?_; refine ov S rfl (Z2 S (b := true) rfl rfl) fun f S => ?_; refine Zq ?_; have hz := Zi H; subst hz; have S := S.fr' (σ' := [(0, .slice ((some ⟨b85, o86, none⟩)) (n27) k28), (14, .bool (y74 == ((0 : Int))))]) rfl; refine Zd (hN56 _ _ ⟨_, _, rfl, (leR _), S⟩)
      have H := ZH H hb71; refine Zr ?_; refine mv S rfl fun f S => ?_; refine ov S rfl (ZS S (ZB h29) rfl rfl ZZ) fun f S => ?_; refine ov S rfl (Zk S rfl rfl ZNa) fun f S => ?_; have S := S.bool (t := 5) rfl hb71; refine mv S rfl fun f S => ?_; refine ZA S (Zx S rfl rfl rfl zl) rfl zl fun f S => ?_; refine ZA S (Zx S rfl rfl rfl zl) rfl zl fun f S => ?_; refine ZA S (Zx S rfl rfl rfl zl) rfl zl fun f S => ?_; refine ZA S (Zx S rfl rfl rfl zl) rfl zl fun f S => ?_; refine ZA S (Zx S rfl rfl rfl zl) rfl zl fun f S => ?_; refine ZA S (Zx S rfl rfl rfl zl) rfl zl fun f S => ?_; refine ZA S (Zx S rfl rfl rfl zl) rfl zl fun f S => ?_; refine ov S rfl (Z2 S (b := false) rfl rfl) fun f S => ?_; refine Zq ?_; have hz := Zi H; subst hz; have S := S.fr' (σ' := [(0, .slice q26 (n27) k28), (14, .bool (false))]) rfl; refine Zd (hN56 _ _ ⟨_, _, rfl, (leR _), S⟩)
    rintro f w ⟨x50, v51, hq, hl57, S⟩; subst hq; have H := ho54; have h29 := Za hl57 h29; refine Zd (hN48 _ _ ?_); rcases ZI (x50) with hb58 | hb58
    · have H := ZJ H hb58; refine ZR S rfl hb58 ?_; refine wp_skip ?_; refine Zd (hN46 _ _ ?_); refine wp_block ?_; obtain ⟨y59, e60, H⟩ := Zc H; obtain ⟨y61, e62, H⟩ := Zc H; refine Zr ?_; refine mv S rfl fun f S => ?_; refine mv S rfl fun f S => ?_; refine ov S rfl (ZS S (ZB h29) rfl rfl ZZ) fun f S => ?_; refine ov S rfl (Zk S rfl rfl (ZLa e60)) fun f S => ?_; obtain ⟨q67, k68, h69, h70⟩ := Z0h S (A := (Zb .u64)) (p := (0 : Int)) (r := y59) ZZ h29 (ZHb e62).1 (ZHb e62).2.1 (ZHb e62).2.2.1; rw [← (ZHb e62).2.2.2.1] at h70; refine ov S rfl (h69 rfl (.inl ⟨rfl, rfl⟩) (.inr ⟨_, _, rfl, rfl⟩)) fun f S => ?_; refine mw S rfl fun f S => ?_; refine Zq ?_; refine ZEa ?_; have hz := Zi H; subst hz; have S := S.fr' (σ' := [(0, .slice q67 ((y59 - ((0 : Int))).toNat) k68)]) rfl; refine hN43 _ rfl _ _ ⟨_, _, _, _, _, rfl, (leT hl41 hl57), S, h70⟩
    have H := ZH H hb58; refine ZQ S rfl hb58 ?_; refine wp_exit ?_; refine Zaa ?_; have hz := Zi H; subst hz; have hq := hO44 _ rfl; subst hq; have H := ho40; refine Zaa ?_; refine ZAa ?_; have hz := Zi H; subst hz; have S := S.fr' (σ' := [(0, .slice q26 (n27) k28)]) rfl; refine Zd (hN21 _ _ ⟨_, _, _, _, _, rfl, (leT (leT (leR _) hl41) hl57), S, h29⟩)
  rintro f w ⟨x11, q12, n13, k14, v16, hq, hl22, S, h15⟩; subst hq; have H := ho19; refine Zd (hN9 _ _ ?_); refine sr ?_; refine mv S rfl fun f S => ?_; refine mw S rfl fun f S => ?_; refine oe ?_; refine wp_ret ?_; have hz := Zi H; subst hz; exact ZL S (ZX rfl (ZP S rfl)) ⟨[.slice q12 (n13) k14], rfl, h15⟩
theorem Zkd {w0 : World} {v0 : Ze} (hv : VIn v0 w0) {c0 : List Value} {a : (List Int)} (p0 : Rep.rel (ZD (Zb .u64)) v0 c0 a) {z : Nat} (hm : Ztb a = some z) :
    Ret Tryz.prog 149 #[(ZD (Zb .u64)).val c0] w0 v0 (fun y v' => ∃ r0, y = ZF.val r0 ∧ ZF.rel v' r0 z) :=
  by cases hm; exact cut_w hv p0 (cut_eq (Zyi p0).1 (Zyi p0).2)
theorem word_w {w0 : World} {v0 : Ze} (hv : VIn v0 w0) {c0 : List Value} {n : Int} (p0 : Rep.rel (Zb .u64) v0 c0 n) {z : Nat} (H : Z3h n = some z) : Ret Tryz.prog 139 #[(Zb .u64).val c0] w0 v0 (fun y v' => ∃ r0, y = ZF.val r0 ∧ ZF.rel v' r0 z) := by
  obtain ⟨rfl, r1⟩ := p0; refine Z7 (K := 6) (args := [.int .u64 (n)]) hv Tryz.func139 rfl rfl zl fun f S => ?_; unfold Z3h at H; refine sr ?_; refine mw S rfl fun f S => ?_; refine oe ?_; refine Zj fun _ hN5 => ?_; obtain ⟨y13, e14, H⟩ := Zc H; refine Zr ?_; refine mv S rfl fun f S => ?_; obtain ⟨b22, w, h23, S⟩ := Zjb S (n := 1) (cs := [.int .u64 (n)]) (vals := [(0, .int .u64 (n))]) (sz := 1) rfl (by decide) (Zlc Zjc (x := .int .u64 (n)) (cs := [.int .u64 (n)]) rfl rfl (by decide)); have h25 : Rep.rels (Zb .u64) v0 [.int .u64 (n)] [n] := (Zbb (Zt r1) Zcb); refine ZGa wn rfl zl (h23 rfl) S fun f S => ?_; obtain ⟨v26, h27, S, h28⟩ := S.pubSlice (i := 0) (A := (Zb .u64)) (l := [n]) (ℓ' := []) rfl rfl rfl h25 rfl; refine ZK S wn rfl zl (Zp S [.slice (mkA (some b22)) (1) 1] Zhd rfl rfl) (Zkd S.vin (show Rep.rel (ZD (Zb .u64)) _ [.slice (mkA (some b22)) (1) 1] ([n]) from h28) e14) ?_; rintro _ v29 f w h30 ⟨c31, rfl, h32⟩ S; have h28 := Za h30 h28; obtain ⟨q33, n34, k35, rfl⟩ := Zfa h32; refine mw S rfl fun f S => ?_; refine Zq ?_; refine Zd (hN5 _ _ ?_); refine wp_ret ?_; have hz := Zi H; subst hz; exact ZL S (ZX rfl (ZP S rfl)) ⟨[.slice q33 n34 k35], rfl, h32⟩
theorem ZZd {w0 : World} {v0 : Ze} (hv : VIn v0 w0) {c0 : List Value} {n : Int} (p0 : Rep.rel (Zb .u64) v0 c0 n) {z : Nat} (hm : ZWb n = some z) :
    Ret Tryz.prog 139 #[(Zb .u64).val c0] w0 v0 (fun y v' => ∃ r0, y = ZF.val r0 ∧ ZF.rel v' r0 z) :=
  word_w hv p0 (Ztn hm)
theorem of_w {w0 : World} {v0 : Ze} (hv : VIn v0 w0) {c0 : List Value} {n : Int} (p0 : Rep.rel (Zb .i64) v0 c0 n) {z : Int} (H : of_m n = some z) : Ret Tryz.prog 88 #[(Zb .i64).val c0] w0 v0 (fun y v' => ∃ r0, y = Zga.val r0 ∧ Zga.rel v' r0 z) := by
  obtain ⟨rfl, r1⟩ := p0; refine Z7 (K := 14) (args := [.int .i64 (n)]) hv Tryz.func88 rfl rfl zl fun f S => ?_; unfold of_m at H; refine sr ?_; refine ZU S wn rfl zl (cs := [.bool false, .slice none 0 0]) (ZV ZNc) fun b5 f w S => ?_; refine oe ?_; refine Zj fun _ hN7 => ?_; refine sr ?_; refine mv S rfl fun f S => ?_; refine ov S rfl (Zk S rfl rfl Zwa) fun f S => ?_; refine oe ?_; rcases ZI (decide (n < (0 : Int))) with hb10 | hb10
  · have H := ZJ H hb10; refine ZR S rfl hb10 ?_; refine Zj fun _ hN12 => ?_; obtain ⟨y13, e14, H⟩ := Zc H; refine Zr ?_; refine mv S rfl fun f S => ?_; refine ov S rfl (ZTa S rfl (ZHh _)) fun f S => ?_; refine ov S rfl (Z3j S rfl) fun f S => ?_; refine ZK S wn rfl zl (Zp S [.int .u64 (IntKind.u64.wrap (-(IntKind.u64.wrap n)))] ZVd rfl rfl) (ZZd S.vin (show Rep.rel (Zb .u64) _ [.int .u64 (IntKind.u64.wrap (-(IntKind.u64.wrap n)))] (IntKind.u64.wrap (-(IntKind.u64.wrap n))) from (Zt (ZIa _ _))) e14) ?_; rintro _ v23 f w h24 ⟨c25, rfl, h26⟩ S; obtain ⟨q27, n28, k29, rfl⟩ := Zfa h26; refine ov S rfl (ZUa S [(0, .bool (true)), (1, .slice q27 n28 k29)] rfl (z := .agg #[.bool (true), .slice q27 n28 k29]) (by kernel_rfl)) fun f S => ?_; obtain ⟨w, h30, S⟩ := ZM S ZOa (b := b5) (off := 0) (z := .agg #[.bool (true), .slice q27 n28 k29]) (cs := [.bool (true), .slice q27 n28 k29]) (ZO _) rfl (i := 0) rfl zl (by first | rfl | simp [Zea]); refine Zha wn rfl (h30 rfl rfl) ?_; refine Zq ?_; refine Zd (hN12 _ _ ?_); refine wp_ret ?_; refine Z5 ?_; obtain ⟨y31, e32, H⟩ := Zc H; have h33 := Zbi (s := true) h26 e32; have hz := Zi H; subst hz; exact ZL S (ZX rfl (Zxa S rfl ZOa rfl (S.box (i := 0) rfl 0 [.bool (true), .slice q27 n28 k29] rfl))) ⟨[.bool (true), .slice q27 n28 k29], rfl, h33⟩
  have H := ZH H hb10; refine ZQ S rfl hb10 ?_; refine wp_skip ?_; refine Zd (hN7 _ _ ?_); refine Zj fun _ hN35 => ?_; obtain ⟨y36, e37, H⟩ := Zc H; refine Zr ?_; refine mv S rfl fun f S => ?_; refine ov S rfl (ZTa S rfl (ZHh _)) fun f S => ?_; refine ZK S wn rfl zl (Zp S [.int .u64 (IntKind.u64.wrap n)] ZVd rfl rfl) (ZZd S.vin (show Rep.rel (Zb .u64) _ [.int .u64 (IntKind.u64.wrap n)] (IntKind.u64.wrap n) from (Zt (ZIa _ _))) e37) ?_; rintro _ v46 f w h47 ⟨c48, rfl, h49⟩ S; obtain ⟨q50, n51, k52, rfl⟩ := Zfa h49; refine ov S rfl (ZUa S [(0, .bool (false)), (1, .slice q50 n51 k52)] rfl (z := .agg #[.bool (false), .slice q50 n51 k52]) (by kernel_rfl)) fun f S => ?_; obtain ⟨w, h53, S⟩ := ZM S ZOa (b := b5) (off := 0) (z := .agg #[.bool (false), .slice q50 n51 k52]) (cs := [.bool (false), .slice q50 n51 k52]) (ZO _) rfl (i := 0) rfl zl (by first | rfl | simp [Zea]); refine Zha wn rfl (h53 rfl rfl) ?_; refine Zq ?_; refine Zd (hN35 _ _ ?_); refine wp_ret ?_; obtain ⟨y54, e55, H⟩ := Zc H; have h56 := Zbi (s := false) h49 e55; have hz := Zi H; subst hz; exact ZL S (ZX rfl (Zxa S rfl ZOa rfl (S.box (i := 0) rfl 0 [.bool (false), .slice q50 n51 k52] rfl))) ⟨[.bool (false), .slice q50 n51 k52], rfl, h56⟩
theorem of_c {w0 : World} {v0 : Ze} (hv : VIn v0 w0) {c0 : List Value} {n : Int} (p0 : Rep.rel (Zb .i64) v0 c0 n) {z : Int} (hm : ofF n = some z) :
    Ret Tryz.prog 88 #[(Zb .i64).val c0] w0 v0 (fun y v' => ∃ r0, y = Zga.val r0 ∧ Zga.rel v' r0 z) :=
  of_w hv p0 (ofF_eq p0.2 hm)
theorem qint_w {w0 : World} {v0 : Ze} (hv : VIn v0 w0) {c0 : List Value} {n : Int} (p0 : Rep.rel (Zb .i64) v0 c0 n) {z : Rat} (H : ZNh n = some z) : Ret Tryz.prog 20 #[(Zb .i64).val c0] w0 v0 (fun y v' => ∃ r0, y = Zf.val r0 ∧ Zf.rel v' r0 z) := by
  obtain ⟨rfl, r1⟩ := p0; refine Z7 (K := 6) (args := [.int .i64 (n)]) hv Tryz.func20 rfl rfl zl fun f S => ?_; unfold ZNh at H; refine sr ?_; refine ZU S wn rfl zl (cs := [.bool false, .slice none 0 0, .slice none 0 0]) (ZV Zda) fun b5 f w S => ?_; refine oe ?_; refine Zj fun _ hN7 => ?_; obtain ⟨y8, e9, H⟩ := Zc H; refine Zr ?_; refine mv S rfl fun f S => ?_; refine ZK S wn rfl zl (Zp S [.int .i64 (n)] Zsh rfl rfl) (of_c S.vin (show Rep.rel (Zb .i64) _ [.int .i64 (n)] n from (Zt r1)) e9) ?_; rintro _ v19 f w h20 ⟨c21, rfl, h22⟩ S; obtain ⟨s23, q24, n25, k26, rfl⟩ := Z2a h22; refine ov S rfl (ZUa S [(0, .agg #[.bool s23, .slice q24 n25 k26])] rfl (z := .agg #[.bool s23, .slice q24 n25 k26, .slice none 0 0]) (by kernel_rfl)) fun f S => ?_; obtain ⟨w, h27, S⟩ := ZM S Zo (b := b5) (off := 0) (z := .agg #[.bool s23, .slice q24 n25 k26, .slice none 0 0]) (cs := [.bool s23, .slice q24 n25 k26, .slice none 0 0]) (ZO _) rfl (i := 0) rfl zl (by first | rfl | simp [Zea]); refine Zha wn rfl (h27 rfl rfl) ?_; refine Zq ?_; refine Zd (hN7 _ _ ?_); refine wp_ret ?_; obtain ⟨y28, e29, H⟩ := Zc H; have h30 := ZMh h22 (Zef _) e29; have hz := Zi H; subst hz; exact ZL S (ZX rfl (Zxa S rfl Zo rfl (S.box (i := 0) rfl 0 [.bool s23, .slice q24 n25 k26, .slice none 0 0] rfl))) ⟨[.bool s23, .slice q24 n25 k26, .slice none 0 0], rfl, h30⟩
theorem ZOd {w0 : World} {v0 : Ze} (hv : VIn v0 w0) {c0 : List Value} {n : Int} (p0 : Rep.rel (Zb .i64) v0 c0 n) {z : Rat} (hm : Z5c n = some z) :
    Ret Tryz.prog 20 #[(Zb .i64).val c0] w0 v0 (fun y v' => ∃ r0, y = Zf.val r0 ∧ Zf.rel v' r0 z) :=
  qint_w hv p0 (ZLo hm)
theorem len64_w {w0 : World} {v0 : Ze} (hv : VIn v0 w0) {c0 : List Value} {x : Int} (p0 : Rep.rel (Zb .u64) v0 c0 x) {z : Int} (H : Zkf x = some z) : Ret Tryz.prog 196 #[(Zb .u64).val c0] w0 v0 (fun y v' => ∃ r0, y = (Zb .i64).val r0 ∧ (Zb .i64).rel v' r0 z) := by
  obtain ⟨rfl, r1⟩ := p0; refine Z7 (K := 25) (args := [.int .u64 (x)]) hv Tryz.func196 rfl rfl zl fun f S => ?_; unfold Zkf at H; refine sr ?_; refine mw S rfl fun f S => ?_; refine oe ?_; refine Zj fun _ hN5 => ?_; refine sr ?_; refine mv S rfl fun f S => ?_; refine ov S rfl (Zk S rfl rfl Zob) fun f S => ?_; refine oe ?_; obtain ⟨ρ14, hc15, ho16⟩ := Zc H; refine Z4 (fun f w => ∃ (x9 : Int) (x11 : Int) (v13 : Ze), (x9, x11) = ρ14 ∧ Ze.le v0 v13 ∧ St 25 w0 v0 [(0, .int .u64 (x9)), (2, .int .i64 (x11))] [] v13 f w ∧ inR .u64 x9 ∧ inR .i64 x11) (fun _ hN18 => ?_) ?_
  · have H := hc15; rcases ZI (decide ((4294967296 : Int) ≤ x)) with hb72 | hb72
    · have H := ZJ H hb72; refine ZR S rfl hb72 ?_; refine Zj fun _ hN74 => ?_; obtain ⟨y75, e76, H⟩ := Zc H; refine Zr ?_; refine mv S rfl fun f S => ?_; refine ov S rfl (Zk S rfl rfl (ZDb e76)) fun f S => ?_; refine mw S rfl fun f S => ?_; refine Zq ?_; refine Zd (hN74 _ _ ?_); refine Zr ?_; refine mw S rfl fun f S => ?_; refine Zq ?_; have hz := Zi H; subst hz; have S := S.fr' (σ' := [(0, .int .u64 (y75)), (2, .int .i64 ((32 : Int)))]) rfl; refine Zd (hN18 _ _ ⟨_, _, _, rfl, (leR _), S, (ZBd r1 e76), (by decide)⟩)
    have H := ZH H hb72; refine ZQ S rfl hb72 ?_; refine wp_skip ?_; have hz := Zi H; subst hz; have S := S.fr' (σ' := [(0, .int .u64 (x)), (2, .int .i64 ((0 : Int)))]) rfl; refine Zd (hN18 _ _ ⟨_, _, _, rfl, (leR _), S, r1, (by decide)⟩)
  rintro f w ⟨x9, x11, v13, hq, hl19, S, r10, r12⟩; subst hq; have H := ho16; refine Zd (hN5 _ _ ?_); refine Zj fun _ hN21 => ?_; refine sr ?_; refine mv S rfl fun f S => ?_; refine ov S rfl (Zk S rfl rfl Zob) fun f S => ?_; refine oe ?_; obtain ⟨ρ30, hc31, ho32⟩ := Zc H; refine Z4 (fun f w => ∃ (x25 : Int) (x27 : Int) (v29 : Ze), (x25, x27) = ρ30 ∧ Ze.le v13 v29 ∧ St 25 w0 v0 [(0, .int .u64 (x25)), (2, .int .i64 (x27))] [] v29 f w ∧ inR .u64 x25 ∧ inR .i64 x27) (fun _ hN34 => ?_) ?_
  · have H := hc31; rcases ZI (decide ((65536 : Int) ≤ x9)) with hb65 | hb65
    · have H := ZJ H hb65; refine ZR S rfl hb65 ?_; refine Zj fun _ hN67 => ?_; obtain ⟨y68, e69, H⟩ := Zc H; refine Zr ?_; refine mv S rfl fun f S => ?_; refine ov S rfl (Zk S rfl rfl (ZDb e69)) fun f S => ?_; refine mw S rfl fun f S => ?_; refine Zq ?_; refine Zd (hN67 _ _ ?_); obtain ⟨y70, e71, H⟩ := Zc H; refine Zr ?_; refine mv S rfl fun f S => ?_; refine ov S rfl (Zk S rfl rfl (Zsa e71)) fun f S => ?_; refine mw S rfl fun f S => ?_; refine Zq ?_; have hz := Zi H; subst hz; have S := S.fr' (σ' := [(0, .int .u64 (y68)), (2, .int .i64 (y70))]) rfl; refine Zd (hN34 _ _ ⟨_, _, _, rfl, (leR _), S, (ZBd r10 e69), (Zla e71).2⟩)
    have H := ZH H hb65; refine ZQ S rfl hb65 ?_; refine wp_skip ?_; have hz := Zi H; subst hz; have S := S.fr' (σ' := [(0, .int .u64 (x9)), (2, .int .i64 (x11))]) rfl; refine Zd (hN34 _ _ ⟨_, _, _, rfl, (leR _), S, r10, r12⟩)
  rintro f w ⟨x25, x27, v29, hq, hl35, S, r26, r28⟩; subst hq; have H := ho32; refine Zd (hN21 _ _ ?_); refine Zj fun _ hN37 => ?_; refine sr ?_; refine mv S rfl fun f S => ?_; refine ov S rfl (Zk S rfl rfl Zob) fun f S => ?_; refine oe ?_; obtain ⟨ρ46, hc47, ho48⟩ := Zc H; refine Z4 (fun f w => ∃ (x41 : Int) (x43 : Int) (v45 : Ze), (x41, x43) = ρ46 ∧ Ze.le v29 v45 ∧ St 25 w0 v0 [(0, .int .u64 (x41)), (2, .int .i64 (x43))] [] v45 f w ∧ inR .u64 x41 ∧ inR .i64 x43) (fun _ hN50 => ?_) ?_
  · have H := hc47; rcases ZI (decide ((256 : Int) ≤ x25)) with hb58 | hb58
    · have H := ZJ H hb58; refine ZR S rfl hb58 ?_; refine Zj fun _ hN60 => ?_; obtain ⟨y61, e62, H⟩ := Zc H; refine Zr ?_; refine mv S rfl fun f S => ?_; refine ov S rfl (Zk S rfl rfl (ZDb e62)) fun f S => ?_; refine mw S rfl fun f S => ?_; refine Zq ?_; refine Zd (hN60 _ _ ?_); obtain ⟨y63, e64, H⟩ := Zc H; refine Zr ?_; refine mv S rfl fun f S => ?_; refine ov S rfl (Zk S rfl rfl (Zsa e64)) fun f S => ?_; refine mw S rfl fun f S => ?_; refine Zq ?_; have hz := Zi H; subst hz; have S := S.fr' (σ' := [(0, .int .u64 (y61)), (2, .int .i64 (y63))]) rfl; refine Zd (hN50 _ _ ⟨_, _, _, rfl, (leR _), S, (ZBd r26 e62), (Zla e64).2⟩)
    have H := ZH H hb58; refine ZQ S rfl hb58 ?_; refine wp_skip ?_; have hz := Zi H; subst hz; have S := S.fr' (σ' := [(0, .int .u64 (x25)), (2, .int .i64 (x27))]) rfl; refine Zd (hN50 _ _ ⟨_, _, _, rfl, (leR _), S, r26, r28⟩)
  rintro f w ⟨x41, x43, v45, hq, hl51, S, r42, r44⟩; subst hq; have H := ho48; refine Zd (hN37 _ _ ?_); refine Zj fun _ hN53 => ?_; obtain ⟨y54, e55, H⟩ := Zc H; obtain ⟨y56, e57, H⟩ := Zc H; refine Zr ?_; refine mv S rfl fun f S => ?_; refine mv S rfl fun f S => ?_; refine ov S rfl (ZTa S rfl (Zvk _)) fun f S => ?_; refine ov S rfl (ZAn S (l := ([0, 1, 2, 2, 3, 3, 3, 3, 4, 4, 4, 4, 4, 4, 4, 4, 5, 5, 5, 5, 5, 5, 5, 5, 5, 5, 5, 5, 5, 5, 5, 5, 6, 6, 6, 6, 6, 6, 6, 6, 6, 6, 6, 6, 6, 6, 6, 6, 6, 6, 6, 6, 6, 6, 6, 6, 6, 6, 6, 6, 6, 6, 6, 6, 7, 7, 7, 7, 7, 7, 7, 7, 7, 7, 7, 7, 7, 7, 7, 7, 7, 7, 7, 7, 7, 7, 7, 7, 7, 7, 7, 7, 7, 7, 7, 7, 7, 7, 7, 7, 7, 7, 7, 7, 7, 7, 7, 7, 7, 7, 7, 7, 7, 7, 7, 7, 7, 7, 7, 7, 7, 7, 7, 7, 7, 7, 7, 7, 8, 8, 8, 8, 8, 8, 8, 8, 8, 8, 8, 8, 8, 8, 8, 8, 8, 8, 8, 8, 8, 8, 8, 8, 8, 8, 8, 8, 8, 8, 8, 8, 8, 8, 8, 8, 8, 8, 8, 8, 8, 8, 8, 8, 8, 8, 8, 8, 8, 8, 8, 8, 8, 8, 8, 8, 8, 8, 8, 8, 8, 8, 8, 8, 8, 8, 8, 8, 8, 8, 8, 8, 8, 8, 8, 8, 8, 8, 8, 8, 8, 8, 8, 8, 8, 8, 8, 8, 8, 8, 8, 8, 8, 8, 8, 8, 8, 8, 8, 8, 8, 8, 8, 8, 8, 8, 8, 8, 8, 8, 8, 8, 8, 8, 8, 8, 8, 8, 8, 8, 8, 8, 8, 8, 8, 8, 8, 8] : List UInt8)) (by kernel_rfl) rfl Tryz.underlying9 e55) fun f S => ?_; refine ov S rfl (ZTa S rfl (k_cv5_3 _)) fun f S => ?_; refine ov S rfl (Zk S rfl rfl (Zsa e57)) fun f S => ?_; refine mw S rfl fun f S => ?_; refine Zq ?_; refine Zd (hN53 _ _ ?_); refine wp_ret ?_; have hz := Zi H; subst hz; exact ZL S (ZX rfl (ZP S rfl)) ⟨[.int .i64 (y56)], rfl, (Zt (Zla e57).2)⟩
theorem len64_c {w0 : World} {v0 : Ze} (hv : VIn v0 w0) {c0 : List Value} {x : Int} (p0 : Rep.rel (Zb .u64) v0 c0 x) {z : Int} (hm : Z8f x = some z) :
    Ret Tryz.prog 196 #[(Zb .u64).val c0] w0 v0 (fun y v' => ∃ r0, y = (Zb .i64).val r0 ∧ (Zb .i64).rel v' r0 z) :=
  len64_w hv p0 (Zem hm)
theorem lz64_w {w0 : World} {v0 : Ze} (hv : VIn v0 w0) {c0 : List Value} {x : Int} (p0 : Rep.rel (Zb .u64) v0 c0 x) {z : Int} (H : ZYg x = some z) : Ret Tryz.prog 176 #[(Zb .u64).val c0] w0 v0 (fun y v' => ∃ r0, y = (Zb .i64).val r0 ∧ (Zb .i64).rel v' r0 z) := by
  obtain ⟨rfl, r1⟩ := p0; refine Z7 (K := 6) (args := [.int .u64 (x)]) hv Tryz.func176 rfl rfl zl fun f S => ?_; unfold ZYg at H; refine sr ?_; refine mw S rfl fun f S => ?_; refine oe ?_; refine Zj fun _ hN5 => ?_; obtain ⟨y6, e7, H⟩ := Zc H; obtain ⟨y13, e14, H⟩ := Zc H; refine Zr ?_; refine mv S rfl fun f S => ?_; refine ZK S wn rfl zl (Zp S [.int .u64 (x)] k_en196 rfl rfl) (len64_c S.vin (show Rep.rel (Zb .u64) _ [.int .u64 (x)] x from (Zt r1)) e7) ?_; rintro _ v15 f w h16 ⟨c17, rfl, h18⟩ S; obtain ⟨rfl, r19⟩ := h18; refine ov S rfl (Zk S rfl rfl (ZLa e14)) fun f S => ?_; refine mw S rfl fun f S => ?_; refine Zq ?_; refine Zd (hN5 _ _ ?_); refine wp_ret ?_; have hz := Zi H; subst hz; exact ZL S (ZX rfl (ZP S rfl)) ⟨[.int .i64 (y13)], rfl, (Zt (Zla e14).2)⟩
theorem Zdk {w0 : World} {v0 : Ze} (hv : VIn v0 w0) {c0 : List Value} {x : Int} (p0 : Rep.rel (Zb .u64) v0 c0 x) {z : Int} (hm : Zxd x = some z) :
    Ret Tryz.prog 176 #[(Zb .u64).val c0] w0 v0 (fun y v' => ∃ r0, y = (Zb .i64).val r0 ∧ (Zb .i64).rel v' r0 z) :=
  lz64_w hv p0 (ZEl hm)
theorem div64_w {w0 : World} {v0 : Ze} (hv : VIn v0 w0) {c0 : List Value} {hi : Int} (p0 : Rep.rel (Zb .u64) v0 c0 hi) {c1 : List Value} {lo : Int} (p1 : Rep.rel (Zb .u64) v0 c1 lo) {c2 : List Value} {y : Int} (p2 : Rep.rel (Zb .u64) v0 c2 y) {z : Int × Int} (H : ZKf hi lo y = some z) : Ret Tryz.prog 190 #[(Zb .u64).val c0, (Zb .u64).val c1, (Zb .u64).val c2] w0 v0 (fun y v' => ∃ r0 r1, y = .tuple #[(Zb .u64).val r0, (Zb .u64).val r1] ∧ (Zb .u64).rel v' r0 z.1 ∧ (Zb .u64).rel v' r1 z.2) := by
  obtain ⟨rfl, r1⟩ := p0; obtain ⟨rfl, r2⟩ := p1; obtain ⟨rfl, r3⟩ := p2; refine Z7 (K := 135) (args := [.int .u64 (hi), .int .u64 (lo), .int .u64 (y)]) hv Tryz.func190 rfl rfl zl fun f S => ?_; unfold ZKf at H; refine sr ?_; refine mw S rfl fun f S => ?_; refine mw S rfl fun f S => ?_; refine oe ?_; refine Zj fun _ hN7 => ?_; refine sr ?_; refine mv S rfl fun f S => ?_; refine ov S rfl (Zk S rfl rfl Zpa) fun f S => ?_; refine oe ?_; rcases ZI (y == ((0 : Int))) with hb10 | hb10
  · have H := ZJ H hb10; refine ZR S rfl hb10 ?_
    cases H
  have H := ZH H hb10; refine ZQ S rfl hb10 ?_; refine wp_skip ?_; refine Zd (hN7 _ _ ?_); refine Zj fun _ hN12 => ?_; refine sr ?_; refine mv S rfl fun f S => ?_; refine mv S rfl fun f S => ?_; refine ov S rfl (Zk S rfl rfl ZZc) fun f S => ?_; refine oe ?_; rcases ZI (decide (y ≤ hi)) with hb15 | hb15
  · have H := ZJ H hb15; refine ZR S rfl hb15 ?_
    cases H
  have H := ZH H hb15; refine ZQ S rfl hb15 ?_; refine wp_skip ?_; refine Zd (hN12 _ _ ?_); refine Zj fun _ hN17 => ?_; refine sr ?_; refine mv S rfl fun f S => ?_; refine ov S rfl (Zk S rfl rfl Zpa) fun f S => ?_; refine oe ?_; rcases ZI (hi == ((0 : Int))) with hb20 | hb20
  · have H := ZJ H hb20; refine ZR S rfl hb20 ?_; refine Zj fun _ hN22 => ?_; obtain ⟨y23, e24, H⟩ := Zc H; obtain ⟨y25, e26, H⟩ := Zc H; refine Zya (fl := #[true, true, true, true, true, true, false, false]) Zza (by kernel_rfl) S ?_; intro ops O F w S; refine rf O F 0 rfl (by kernel_rfl) rfl S (Zv S rfl) fun f S => ?_; refine rf O F 1 rfl (by kernel_rfl) rfl S (Zv S rfl) fun f S => ?_; refine rf O F 2 rfl (by kernel_rfl) rfl S (Zk S rfl rfl (ZTb e24)) fun f S => ?_; refine rf O F 3 rfl (by kernel_rfl) rfl S (Zv S rfl) fun f S => ?_; refine rf O F 4 rfl (by kernel_rfl) rfl S (Zv S rfl) fun f S => ?_; refine rf O F 5 rfl (by kernel_rfl) rfl S (Zk S rfl rfl (Zsc e26)) fun f S => ?_; refine Zs O F 6 (by kernel_rfl) ?_; refine nv [0, 1, 2] [3, 4, 5] O rfl (by kernel_rfl) rfl S (Zqa S rfl) fun f S => ?_; refine ⟨(py S rfl rfl (Zv S rfl) (py S rfl rfl (Zv S rfl) (py S rfl rfl (Zk S rfl rfl (Zsc e26)) Zl))), ?_⟩; refine Zs O F 7 (by kernel_rfl) ?_; refine nv [0, 1, 2, 3, 4, 5, 6] [] O rfl (by kernel_rfl) rfl S (Zqa S rfl) fun f S => ?_; refine ⟨Zl, ?_⟩; refine Zba O F (by kernel_rfl) ?_; refine Zd (hN22 _ _ ?_); refine wp_ret ?_; refine Z5 ?_; have hz := Zi H; subst hz; exact ZL S (ZPa rfl (ZP S rfl) (ZP S rfl)) ⟨[.int .u64 (y23)], [.int .u64 (y25)], rfl, (Zt (ZTe e24)), (Zt (Zfj r2 e26))⟩
  have H := ZH H hb20; refine ZQ S rfl hb20 ?_; refine wp_skip ?_; refine Zd (hN17 _ _ ?_); refine Zj fun _ hN28 => ?_; obtain ⟨y29, e30, H⟩ := Zc H; refine Zr ?_; refine mv S rfl fun f S => ?_; refine ZK S wn rfl zl (Zp S [.int .u64 (y)] Zvj rfl rfl) (Zdk S.vin (show Rep.rel (Zb .u64) _ [.int .u64 (y)] y from (Zt r3)) e30) ?_; rintro _ v36 f w h37 ⟨c38, rfl, h39⟩ S; obtain ⟨rfl, r40⟩ := h39; refine ov S rfl (ZTa S rfl (ZFi _)) fun f S => ?_; refine mw S rfl fun f S => ?_; refine Zq ?_; refine Zd (hN28 _ _ ?_); refine Zj fun _ hN42 => ?_; obtain ⟨y43, e44, H⟩ := Zc H; refine Zr ?_; refine mv S rfl fun f S => ?_; refine mv S rfl fun f S => ?_; refine ov S rfl (Zk S rfl rfl (Zud e44)) fun f S => ?_; refine mw S rfl fun f S => ?_; refine Zq ?_; refine Zd (hN42 _ _ ?_); refine Zj fun _ hN46 => ?_; obtain ⟨y47, e48, H⟩ := Zc H; refine Zr ?_; refine mv S rfl fun f S => ?_; refine ov S rfl (Zk S rfl rfl (ZDb e48)) fun f S => ?_; refine mw S rfl fun f S => ?_; refine Zq ?_; refine Zd (hN46 _ _ ?_); refine sr ?_; refine mv S rfl fun f S => ?_; refine ov S rfl (Zk S rfl rfl Z0e) fun f S => ?_; refine mw S rfl fun f S => ?_; refine oe ?_; refine Zj fun _ hN52 => ?_; obtain ⟨y53, e54, H⟩ := Zc H; obtain ⟨y55, e56, H⟩ := Zc H; refine Zr ?_; refine mv S rfl fun f S => ?_; refine mv S rfl fun f S => ?_; refine ov S rfl (Zk S rfl rfl (Zud e54)) fun f S => ?_
  refine mv S rfl fun f S => ?_; refine mv S rfl fun f S => ?_; refine ov S rfl (Zk S rfl rfl Zfd) fun f S => ?_; refine ov S rfl (Zk S rfl rfl (ZDb e56)) fun f S => ?_; refine ov S rfl (Zk S rfl rfl Zqe) fun f S => ?_; refine mw S rfl fun f S => ?_; refine Zq ?_; have S := S.fr' (σ' := [(1, .int .u64 (lo)), (2, .int .u64 (y43)), (8, .int .u64 (IntKind.u64.wrap y29)), (9, .int .u64 (y47)), (10, .int .u64 (Zma .u64 y43 ((4294967295 : Int)))), (11, .int .u64 (orI .u64 y53 y55))]) rfl; refine Zd (hN52 _ _ ?_); refine Zj fun _ hN58 => ?_; obtain ⟨y59, e60, H⟩ := Zc H; refine Zr ?_; refine mv S rfl fun f S => ?_; refine mv S rfl fun f S => ?_; refine ov S rfl (Zk S rfl rfl (Zud e60)) fun f S => ?_; refine mw S rfl fun f S => ?_; refine Zq ?_; refine Zd (hN58 _ _ ?_); refine Zj fun _ hN62 => ?_; obtain ⟨y63, e64, H⟩ := Zc H; refine Zr ?_; refine mv S rfl fun f S => ?_; refine ov S rfl (Zk S rfl rfl (ZDb e64)) fun f S => ?_; refine mw S rfl fun f S => ?_; refine Zq ?_; refine Zd (hN62 _ _ ?_); refine sr ?_; refine mv S rfl fun f S => ?_; refine ov S rfl (Zk S rfl rfl Z0e) fun f S => ?_; refine mw S rfl fun f S => ?_; refine oe ?_; refine Zj fun _ hN68 => ?_; obtain ⟨y69, e70, H⟩ := Zc H; refine Zr ?_; refine mv S rfl fun f S => ?_; refine mv S rfl fun f S => ?_; refine ov S rfl (Zk S rfl rfl (ZTb e70)) fun f S => ?_; refine mw S rfl fun f S => ?_; refine Zq ?_
  refine Zd (hN68 _ _ ?_); refine sr ?_; refine mv S rfl fun f S => ?_; refine mv S rfl fun f S => ?_; refine mv S rfl fun f S => ?_; refine ov S rfl (Zk S rfl rfl Z2b) fun f S => ?_; refine ov S rfl (Zk S rfl rfl Zfd) fun f S => ?_; refine mw S rfl fun f S => ?_; refine oe ?_; refine Zj fun _ hN74 => ?_; obtain ⟨ρ79, hc80, ho81⟩ := Zc H; refine Z4 (fun f w => ∃ (x76 : Int) (v78 : Ze), x76 = ρ79 ∧ Ze.le v36 v78 ∧ St 135 w0 v0 [(2, .int .u64 (y43)), (8, .int .u64 (IntKind.u64.wrap y29)), (9, .int .u64 (y47)), (10, .int .u64 (Zma .u64 y43 ((4294967295 : Int)))), (11, .int .u64 (orI .u64 y53 y55)), (13, .int .u64 (y63)), (14, .int .u64 (Zma .u64 y59 ((4294967295 : Int)))), (15, .int .u64 (x76))] [] v78 f w ∧ inR .u64 x76) (fun _ hN83 => ?_) ?_
  · have H := hc80; refine wp_block ?_; obtain ⟨ρ157, hc158, ho159⟩ := Zc H; have S := S.fr' (σ' := [(2, .int .u64 (y43)), (8, .int .u64 (IntKind.u64.wrap y29)), (9, .int .u64 (y47)), (10, .int .u64 (Zma .u64 y43 ((4294967295 : Int)))), (11, .int .u64 (orI .u64 y53 y55)), (13, .int .u64 (y63)), (14, .int .u64 (Zma .u64 y59 ((4294967295 : Int)))), (15, .int .u64 (y69)), (16, .int .u64 (IntKind.u64.wrap ((orI .u64 y53 y55) - (IntKind.u64.wrap (y69 * y47)))))]) rfl; refine ZHa hc158 (fun s186 f w => ∃ (x148 : Int) (x150 : Int) (v152 : Ze), (x148, x150) = s186 ∧ Ze.le v36 v152 ∧ St 135 w0 v0 [(2, .int .u64 (y43)), (8, .int .u64 (IntKind.u64.wrap y29)), (9, .int .u64 (y47)), (10, .int .u64 (Zma .u64 y43 ((4294967295 : Int)))), (11, .int .u64 (orI .u64 y53 y55)), (13, .int .u64 (y63)), (14, .int .u64 (Zma .u64 y59 ((4294967295 : Int)))), (15, .int .u64 (x148)), (16, .int .u64 (x150))] [] v152 f w ∧ inR .u64 x148 ∧ inR .u64 x150) ⟨_, _, _, rfl, (leR _), S, (ZTe e70), (ZIa _ _)⟩ ?_; rintro _ f w st ⟨x148, x150, v152, hq, hl160, S, r149, r151⟩ H N161 hN162 hO163; subst hq; refine Zj fun _ hN165 => ?_; refine Zj fun _ hN167 => ?_; obtain ⟨ρ171, hc172, ho173⟩ := Zc H; refine Z4 (fun f w => ∃ (x169 : Bool) (v170 : Ze), x169 = ρ171 ∧ Ze.le v152 v170 ∧ St 135 w0 v0 [(2, .int .u64 (y43)), (8, .int .u64 (IntKind.u64.wrap y29)), (9, .int .u64 (y47)), (10, .int .u64 (Zma .u64 y43 ((4294967295 : Int)))), (11, .int .u64 (orI .u64 y53 y55)), (13, .int .u64 (y63)), (14, .int .u64 (Zma .u64 y59 ((4294967295 : Int)))), (15, .int .u64 (x148)), (16, .int .u64 (x150)), (78, .bool (x169))] [] v170 f w) (fun _ hN175 => ?_) ?_
    · have H := hc172; rcases ZI (decide ((4294967296 : Int) ≤ x148)) with hb185 | hb185
      · have H := ZJ H hb185; refine Zr ?_; refine mv S rfl fun f S => ?_; refine ov S rfl (Zk S rfl rfl Zob) fun f S => ?_; have S := S.bool (t := 68) rfl hb185; refine mv S rfl fun f S => ?_; refine ZA S (Zx S rfl rfl rfl zl) rfl zl fun f S => ?_; refine ZA S (Zx S rfl rfl rfl zl) rfl zl fun f S => ?_; refine ZA S (Zx S rfl rfl rfl zl) rfl zl fun f S => ?_; refine ZA S (Zx S rfl rfl rfl zl) rfl zl fun f S => ?_; refine ZA S (Zx S rfl rfl rfl zl) rfl zl fun f S => ?_; refine ZA S (Zx S rfl rfl rfl zl) rfl zl fun f S => ?_; refine ZA S (Zx S rfl rfl rfl zl) rfl zl fun f S => ?_; refine ZA S (Zx S rfl rfl rfl zl) rfl zl fun f S => ?_; refine ov S rfl (Z2 S (b := true) rfl rfl) fun f S => ?_; refine Zq ?_; have hz := Zi H; subst hz; have S := S.fr' (σ' := [(2, .int .u64 (y43)), (8, .int .u64 (IntKind.u64.wrap y29)), (9, .int .u64 (y47)), (10, .int .u64 (Zma .u64 y43 ((4294967295 : Int)))), (11, .int .u64 (orI .u64 y53 y55)), (13, .int .u64 (y63)), (14, .int .u64 (Zma .u64 y59 ((4294967295 : Int)))), (15, .int .u64 (x148)), (16, .int .u64 (x150)), (78, .bool (true))]) rfl; refine Zd (hN175 _ _ ⟨_, _, rfl, (leR _), S⟩)
      have H := ZH H hb185; refine Zr ?_; refine mv S rfl fun f S => ?_; refine ov S rfl (Zk S rfl rfl Zob) fun f S => ?_; have S := S.bool (t := 68) rfl hb185; refine mv S rfl fun f S => ?_; refine ZG S (Zw S rfl rfl rfl zl) rfl zl (Zv S rfl) fun f S => ?_; refine ZG S (Zw S rfl rfl rfl zl) rfl zl (Zv S rfl) fun f S => ?_; refine ZG S (Zw S rfl rfl rfl zl) rfl zl (Zk S rfl rfl Z2b) fun f S => ?_; refine ZG S (Zw S rfl rfl rfl zl) rfl zl (Zv S rfl) fun f S => ?_; refine ZG S (Zw S rfl rfl rfl zl) rfl zl (Zk S rfl rfl Z2b) fun f S => ?_; refine ZG S (Zw S rfl rfl rfl zl) rfl zl (Zv S rfl) fun f S => ?_; refine ZG S (Zw S rfl rfl rfl zl) rfl zl (Zk S rfl rfl Z3b) fun f S => ?_; refine ZG S (Zw S rfl rfl rfl zl) rfl zl (Zk S rfl rfl ZNa) fun f S => ?_; refine ov S rfl (Z2 S (b := false) rfl rfl) fun f S => ?_; refine Zq ?_; have hz := Zi H; subst hz; have S := S.fr' (σ' := [(2, .int .u64 (y43)), (8, .int .u64 (IntKind.u64.wrap y29)), (9, .int .u64 (y47)), (10, .int .u64 (Zma .u64 y43 ((4294967295 : Int)))), (11, .int .u64 (orI .u64 y53 y55)), (13, .int .u64 (y63)), (14, .int .u64 (Zma .u64 y59 ((4294967295 : Int)))), (15, .int .u64 (x148)), (16, .int .u64 (x150)), (78, .bool (decide (IntKind.u64.wrap ((IntKind.u64.wrap (((4294967296 : Int)) * x150)) + y63) < IntKind.u64.wrap (x148 * (Zma .u64 y43 ((4294967295 : Int)))))))]) rfl
      refine Zd (hN175 _ _ ⟨_, _, rfl, (leR _), S⟩)
    rintro f w ⟨x169, v170, hq, hl176, S⟩; subst hq; have H := ho173; refine Zd (hN167 _ _ ?_); rcases ZI (x169) with hb177 | hb177
    · have H := ZJ H hb177; refine ZR S rfl hb177 ?_; refine wp_skip ?_; refine Zd (hN165 _ _ ?_); refine wp_block ?_; refine sr ?_; refine mv S rfl fun f S => ?_; refine ov S rfl (Zk S rfl rfl Zfd) fun f S => ?_; refine mw S rfl fun f S => ?_; refine oe ?_; refine sr ?_; refine mv S rfl fun f S => ?_; refine mv S rfl fun f S => ?_; refine ov S rfl (Zk S rfl rfl Z3b) fun f S => ?_; refine mw S rfl fun f S => ?_; refine oe ?_; refine sr ?_; refine mv S rfl fun f S => ?_; refine ov S rfl (Zk S rfl rfl Zob) fun f S => ?_; refine oe ?_; rcases ZI (decide ((4294967296 : Int) ≤ IntKind.u64.wrap (x150 + y47))) with hb184 | hb184
      · have H := ZJ H hb184; refine ZR S rfl hb184 ?_; refine wp_exit ?_; refine Zuh rfl ?_; have hz := Zi H; subst hz; have hq := hO163 _ rfl; subst hq; have H := ho159; refine Zaa ?_; refine ZAa ?_; have hz := Zi H; subst hz; have S := S.fr' (σ' := [(2, .int .u64 (y43)), (8, .int .u64 (IntKind.u64.wrap y29)), (9, .int .u64 (y47)), (10, .int .u64 (Zma .u64 y43 ((4294967295 : Int)))), (11, .int .u64 (orI .u64 y53 y55)), (13, .int .u64 (y63)), (14, .int .u64 (Zma .u64 y59 ((4294967295 : Int)))), (15, .int .u64 (IntKind.u64.wrap (x148 - ((1 : Int)))))]) rfl; refine Zd (hN83 _ _ ⟨_, _, rfl, (leT (leT (leR _) hl160) hl176), S, (ZIa _ _)⟩)
      have H := ZH H hb184; refine ZQ S rfl hb184 ?_; refine wp_skip ?_; refine ZEa ?_; have hz := Zi H; subst hz; have S := S.fr' (σ' := [(2, .int .u64 (y43)), (8, .int .u64 (IntKind.u64.wrap y29)), (9, .int .u64 (y47)), (10, .int .u64 (Zma .u64 y43 ((4294967295 : Int)))), (11, .int .u64 (orI .u64 y53 y55)), (13, .int .u64 (y63)), (14, .int .u64 (Zma .u64 y59 ((4294967295 : Int)))), (15, .int .u64 (IntKind.u64.wrap (x148 - ((1 : Int))))), (16, .int .u64 (IntKind.u64.wrap (x150 + y47)))]) rfl; refine hN162 _ rfl _ _ ⟨_, _, _, rfl, (leT hl160 hl176), S, (ZIa _ _), (ZIa _ _)⟩
    have H := ZH H hb177; refine ZQ S rfl hb177 ?_; refine wp_exit ?_; refine Zaa ?_; have hz := Zi H; subst hz; have hq := hO163 _ rfl; subst hq; have H := ho159; refine Zaa ?_; refine ZAa ?_; have hz := Zi H; subst hz; have S := S.fr' (σ' := [(2, .int .u64 (y43)), (8, .int .u64 (IntKind.u64.wrap y29)), (9, .int .u64 (y47)), (10, .int .u64 (Zma .u64 y43 ((4294967295 : Int)))), (11, .int .u64 (orI .u64 y53 y55)), (13, .int .u64 (y63)), (14, .int .u64 (Zma .u64 y59 ((4294967295 : Int)))), (15, .int .u64 (x148))]) rfl; refine Zd (hN83 _ _ ⟨_, _, rfl, (leT (leT (leR _) hl160) hl176), S, r149⟩)
  rintro f w ⟨x76, v78, hq, hl84, S, r77⟩; subst hq; have H := ho81; refine Zd (hN74 _ _ ?_); refine sr ?_; refine mv S rfl fun f S => ?_; refine ov S rfl (Zk S rfl rfl Z2b) fun f S => ?_; refine mv S rfl fun f S => ?_; refine ov S rfl (Zk S rfl rfl Z3b) fun f S => ?_; refine mv S rfl fun f S => ?_; refine mv S rfl fun f S => ?_; refine ov S rfl (Zk S rfl rfl Z2b) fun f S => ?_; refine ov S rfl (Zk S rfl rfl Zfd) fun f S => ?_; refine mw S rfl fun f S => ?_; refine oe ?_; refine Zj fun _ hN88 => ?_; obtain ⟨y89, e90, H⟩ := Zc H; refine Zr ?_; refine mv S rfl fun f S => ?_; refine mv S rfl fun f S => ?_; refine ov S rfl (Zk S rfl rfl (ZTb e90)) fun f S => ?_; refine mw S rfl fun f S => ?_; refine Zq ?_; refine Zd (hN88 _ _ ?_); refine sr ?_; refine mv S rfl fun f S => ?_; refine mv S rfl fun f S => ?_; refine mv S rfl fun f S => ?_; refine ov S rfl (Zk S rfl rfl Z2b) fun f S => ?_; refine ov S rfl (Zk S rfl rfl Zfd) fun f S => ?_; refine mw S rfl fun f S => ?_; refine oe ?_; refine Zj fun _ hN94 => ?_; obtain ⟨ρ99, hc100, ho101⟩ := Zc H; refine Z4 (fun f w => ∃ (x96 : Int) (v98 : Ze), x96 = ρ99 ∧ Ze.le v78 v98 ∧ St 135 w0 v0 [(2, .int .u64 (y43)), (8, .int .u64 (IntKind.u64.wrap y29)), (14, .int .u64 (Zma .u64 y59 ((4294967295 : Int)))), (15, .int .u64 (x76)), (17, .int .u64 (IntKind.u64.wrap ((IntKind.u64.wrap ((IntKind.u64.wrap ((orI .u64 y53 y55) * ((4294967296 : Int)))) + y63)) - (IntKind.u64.wrap (x76 * y43))))), (18, .int .u64 (x96))] [] v98 f w ∧ inR .u64 x96) (fun _ hN103 => ?_) ?_
  · have H := hc100; refine wp_block ?_; obtain ⟨ρ118, hc119, ho120⟩ := Zc H; have S := S.fr' (σ' := [(2, .int .u64 (y43)), (8, .int .u64 (IntKind.u64.wrap y29)), (9, .int .u64 (y47)), (10, .int .u64 (Zma .u64 y43 ((4294967295 : Int)))), (14, .int .u64 (Zma .u64 y59 ((4294967295 : Int)))), (15, .int .u64 (x76)), (16, .int .u64 (IntKind.u64.wrap ((IntKind.u64.wrap ((IntKind.u64.wrap ((IntKind.u64.wrap ((orI .u64 y53 y55) * ((4294967296 : Int)))) + y63)) - (IntKind.u64.wrap (x76 * y43)))) - (IntKind.u64.wrap (y89 * y47))))), (17, .int .u64 (IntKind.u64.wrap ((IntKind.u64.wrap ((IntKind.u64.wrap ((orI .u64 y53 y55) * ((4294967296 : Int)))) + y63)) - (IntKind.u64.wrap (x76 * y43))))), (18, .int .u64 (y89))]) rfl; refine ZHa hc119 (fun s147 f w => ∃ (x109 : Int) (x111 : Int) (v113 : Ze), (x109, x111) = s147 ∧ Ze.le v78 v113 ∧ St 135 w0 v0 [(2, .int .u64 (y43)), (8, .int .u64 (IntKind.u64.wrap y29)), (9, .int .u64 (y47)), (10, .int .u64 (Zma .u64 y43 ((4294967295 : Int)))), (14, .int .u64 (Zma .u64 y59 ((4294967295 : Int)))), (15, .int .u64 (x76)), (16, .int .u64 (x109)), (17, .int .u64 (IntKind.u64.wrap ((IntKind.u64.wrap ((IntKind.u64.wrap ((orI .u64 y53 y55) * ((4294967296 : Int)))) + y63)) - (IntKind.u64.wrap (x76 * y43))))), (18, .int .u64 (x111))] [] v113 f w ∧ inR .u64 x109 ∧ inR .u64 x111) ⟨_, _, _, rfl, (leR _), S, (ZIa _ _), (ZTe e90)⟩ ?_; rintro _ f w st ⟨x109, x111, v113, hq, hl121, S, r110, r112⟩ H N122 hN123 hO124; subst hq; refine Zj fun _ hN126 => ?_
    refine Zj fun _ hN128 => ?_; obtain ⟨ρ132, hc133, ho134⟩ := Zc H; refine Z4 (fun f w => ∃ (x130 : Bool) (v131 : Ze), x130 = ρ132 ∧ Ze.le v113 v131 ∧ St 135 w0 v0 [(2, .int .u64 (y43)), (8, .int .u64 (IntKind.u64.wrap y29)), (9, .int .u64 (y47)), (10, .int .u64 (Zma .u64 y43 ((4294967295 : Int)))), (14, .int .u64 (Zma .u64 y59 ((4294967295 : Int)))), (15, .int .u64 (x76)), (16, .int .u64 (x109)), (17, .int .u64 (IntKind.u64.wrap ((IntKind.u64.wrap ((IntKind.u64.wrap ((orI .u64 y53 y55) * ((4294967296 : Int)))) + y63)) - (IntKind.u64.wrap (x76 * y43))))), (18, .int .u64 (x111)), (113, .bool (x130))] [] v131 f w) (fun _ hN136 => ?_) ?_
    · have H := hc133; rcases ZI (decide ((4294967296 : Int) ≤ x111)) with hb146 | hb146
      · have H := ZJ H hb146; refine Zr ?_; refine mv S rfl fun f S => ?_; refine ov S rfl (Zk S rfl rfl Zob) fun f S => ?_; have S := S.bool (t := 103) rfl hb146; refine mv S rfl fun f S => ?_; refine ZA S (Zx S rfl rfl rfl zl) rfl zl fun f S => ?_; refine ZA S (Zx S rfl rfl rfl zl) rfl zl fun f S => ?_; refine ZA S (Zx S rfl rfl rfl zl) rfl zl fun f S => ?_; refine ZA S (Zx S rfl rfl rfl zl) rfl zl fun f S => ?_; refine ZA S (Zx S rfl rfl rfl zl) rfl zl fun f S => ?_; refine ZA S (Zx S rfl rfl rfl zl) rfl zl fun f S => ?_; refine ZA S (Zx S rfl rfl rfl zl) rfl zl fun f S => ?_; refine ZA S (Zx S rfl rfl rfl zl) rfl zl fun f S => ?_; refine ov S rfl (Z2 S (b := true) rfl rfl) fun f S => ?_; refine Zq ?_; have hz := Zi H; subst hz; have S := S.fr' (σ' := [(2, .int .u64 (y43)), (8, .int .u64 (IntKind.u64.wrap y29)), (9, .int .u64 (y47)), (10, .int .u64 (Zma .u64 y43 ((4294967295 : Int)))), (14, .int .u64 (Zma .u64 y59 ((4294967295 : Int)))), (15, .int .u64 (x76)), (16, .int .u64 (x109)), (17, .int .u64 (IntKind.u64.wrap ((IntKind.u64.wrap ((IntKind.u64.wrap ((orI .u64 y53 y55) * ((4294967296 : Int)))) + y63)) - (IntKind.u64.wrap (x76 * y43))))), (18, .int .u64 (x111)), (113, .bool (true))]) rfl; refine Zd (hN136 _ _ ⟨_, _, rfl, (leR _), S⟩)
      have H := ZH H hb146; refine Zr ?_; refine mv S rfl fun f S => ?_; refine ov S rfl (Zk S rfl rfl Zob) fun f S => ?_; have S := S.bool (t := 103) rfl hb146; refine mv S rfl fun f S => ?_; refine ZG S (Zw S rfl rfl rfl zl) rfl zl (Zv S rfl) fun f S => ?_; refine ZG S (Zw S rfl rfl rfl zl) rfl zl (Zv S rfl) fun f S => ?_; refine ZG S (Zw S rfl rfl rfl zl) rfl zl (Zk S rfl rfl Z2b) fun f S => ?_; refine ZG S (Zw S rfl rfl rfl zl) rfl zl (Zv S rfl) fun f S => ?_; refine ZG S (Zw S rfl rfl rfl zl) rfl zl (Zk S rfl rfl Z2b) fun f S => ?_; refine ZG S (Zw S rfl rfl rfl zl) rfl zl (Zv S rfl) fun f S => ?_; refine ZG S (Zw S rfl rfl rfl zl) rfl zl (Zk S rfl rfl Z3b) fun f S => ?_; refine ZG S (Zw S rfl rfl rfl zl) rfl zl (Zk S rfl rfl ZNa) fun f S => ?_; refine ov S rfl (Z2 S (b := false) rfl rfl) fun f S => ?_; refine Zq ?_; have hz := Zi H; subst hz; have S := S.fr' (σ' := [(2, .int .u64 (y43)), (8, .int .u64 (IntKind.u64.wrap y29)), (9, .int .u64 (y47)), (10, .int .u64 (Zma .u64 y43 ((4294967295 : Int)))), (14, .int .u64 (Zma .u64 y59 ((4294967295 : Int)))), (15, .int .u64 (x76)), (16, .int .u64 (x109)), (17, .int .u64 (IntKind.u64.wrap ((IntKind.u64.wrap ((IntKind.u64.wrap ((orI .u64 y53 y55) * ((4294967296 : Int)))) + y63)) - (IntKind.u64.wrap (x76 * y43))))), (18, .int .u64 (x111)), (113, .bool (decide (IntKind.u64.wrap ((IntKind.u64.wrap (((4294967296 : Int)) * x109)) + (Zma .u64 y59 ((4294967295 : Int)))) < IntKind.u64.wrap (x111 * (Zma .u64 y43 ((4294967295 : Int)))))))]) rfl
      refine Zd (hN136 _ _ ⟨_, _, rfl, (leR _), S⟩)
    rintro f w ⟨x130, v131, hq, hl137, S⟩; subst hq; have H := ho134; refine Zd (hN128 _ _ ?_); rcases ZI (x130) with hb138 | hb138
    · have H := ZJ H hb138; refine ZR S rfl hb138 ?_; refine wp_skip ?_; refine Zd (hN126 _ _ ?_); refine wp_block ?_; refine sr ?_; refine mv S rfl fun f S => ?_; refine ov S rfl (Zk S rfl rfl Zfd) fun f S => ?_; refine mw S rfl fun f S => ?_; refine oe ?_; refine sr ?_; refine mv S rfl fun f S => ?_; refine mv S rfl fun f S => ?_; refine ov S rfl (Zk S rfl rfl Z3b) fun f S => ?_; refine mw S rfl fun f S => ?_; refine oe ?_; refine sr ?_; refine mv S rfl fun f S => ?_; refine ov S rfl (Zk S rfl rfl Zob) fun f S => ?_; refine oe ?_; rcases ZI (decide ((4294967296 : Int) ≤ IntKind.u64.wrap (x109 + y47))) with hb145 | hb145
      · have H := ZJ H hb145; refine ZR S rfl hb145 ?_; refine wp_exit ?_; refine Zuh rfl ?_; have hz := Zi H; subst hz; have hq := hO124 _ rfl; subst hq; have H := ho120; refine Zaa ?_; refine ZAa ?_; have hz := Zi H; subst hz; have S := S.fr' (σ' := [(2, .int .u64 (y43)), (8, .int .u64 (IntKind.u64.wrap y29)), (14, .int .u64 (Zma .u64 y59 ((4294967295 : Int)))), (15, .int .u64 (x76)), (17, .int .u64 (IntKind.u64.wrap ((IntKind.u64.wrap ((IntKind.u64.wrap ((orI .u64 y53 y55) * ((4294967296 : Int)))) + y63)) - (IntKind.u64.wrap (x76 * y43))))), (18, .int .u64 (IntKind.u64.wrap (x111 - ((1 : Int)))))]) rfl; refine Zd (hN103 _ _ ⟨_, _, rfl, (leT (leT (leR _) hl121) hl137), S, (ZIa _ _)⟩)
      have H := ZH H hb145; refine ZQ S rfl hb145 ?_; refine wp_skip ?_; refine ZEa ?_; have hz := Zi H; subst hz; have S := S.fr' (σ' := [(2, .int .u64 (y43)), (8, .int .u64 (IntKind.u64.wrap y29)), (9, .int .u64 (y47)), (10, .int .u64 (Zma .u64 y43 ((4294967295 : Int)))), (14, .int .u64 (Zma .u64 y59 ((4294967295 : Int)))), (15, .int .u64 (x76)), (16, .int .u64 (IntKind.u64.wrap (x109 + y47))), (17, .int .u64 (IntKind.u64.wrap ((IntKind.u64.wrap ((IntKind.u64.wrap ((orI .u64 y53 y55) * ((4294967296 : Int)))) + y63)) - (IntKind.u64.wrap (x76 * y43))))), (18, .int .u64 (IntKind.u64.wrap (x111 - ((1 : Int)))))]) rfl; refine hN123 _ rfl _ _ ⟨_, _, _, rfl, (leT hl121 hl137), S, (ZIa _ _), (ZIa _ _)⟩
    have H := ZH H hb138; refine ZQ S rfl hb138 ?_; refine wp_exit ?_; refine Zaa ?_; have hz := Zi H; subst hz; have hq := hO124 _ rfl; subst hq; have H := ho120; refine Zaa ?_; refine ZAa ?_; have hz := Zi H; subst hz; have S := S.fr' (σ' := [(2, .int .u64 (y43)), (8, .int .u64 (IntKind.u64.wrap y29)), (14, .int .u64 (Zma .u64 y59 ((4294967295 : Int)))), (15, .int .u64 (x76)), (17, .int .u64 (IntKind.u64.wrap ((IntKind.u64.wrap ((IntKind.u64.wrap ((orI .u64 y53 y55) * ((4294967296 : Int)))) + y63)) - (IntKind.u64.wrap (x76 * y43))))), (18, .int .u64 (x111))]) rfl; refine Zd (hN103 _ _ ⟨_, _, rfl, (leT (leT (leR _) hl121) hl137), S, r112⟩)
  rintro f w ⟨x96, v98, hq, hl104, S, r97⟩; subst hq; have H := ho101; refine Zd (hN94 _ _ ?_); refine Zj fun _ hN106 => ?_; obtain ⟨y107, e108, H⟩ := Zc H; refine Zr ?_; refine mv S rfl fun f S => ?_; refine ov S rfl (Zk S rfl rfl Z2b) fun f S => ?_; refine mv S rfl fun f S => ?_; refine ov S rfl (Zk S rfl rfl Z3b) fun f S => ?_; refine mv S rfl fun f S => ?_; refine ov S rfl (Zk S rfl rfl Z2b) fun f S => ?_; refine mv S rfl fun f S => ?_; refine ov S rfl (Zk S rfl rfl Z3b) fun f S => ?_; refine mv S rfl fun f S => ?_; refine mv S rfl fun f S => ?_; refine ov S rfl (Zk S rfl rfl Z2b) fun f S => ?_; refine ov S rfl (Zk S rfl rfl Zfd) fun f S => ?_; refine mv S rfl fun f S => ?_; refine ov S rfl (Zk S rfl rfl (ZDb e108)) fun f S => ?_; refine mw S rfl fun f S => ?_; refine mw S rfl fun f S => ?_; refine Zq ?_; refine Zd (hN106 _ _ ?_); refine wp_ret ?_; have hz := Zi H; subst hz; exact ZL S (ZPa rfl (ZP S rfl) (ZP S rfl)) ⟨[.int .u64 (IntKind.u64.wrap ((IntKind.u64.wrap (x76 * ((4294967296 : Int)))) + x96))], [.int .u64 (y107)], rfl, (Zt (ZIa _ _)), (Zt (ZBd (ZIa _ _) e108))⟩
theorem Zsk {w0 : World} {v0 : Ze} (hv : VIn v0 w0) {c0 : List Value} {hi : Int} (p0 : Rep.rel (Zb .u64) v0 c0 hi) {c1 : List Value} {lo : Int} (p1 : Rep.rel (Zb .u64) v0 c1 lo) {c2 : List Value} {y : Int} (p2 : Rep.rel (Zb .u64) v0 c2 y) {z : Int × Int} (hm : Zpd hi lo y = some z) :
    Ret Tryz.prog 190 #[(Zb .u64).val c0, (Zb .u64).val c1, (Zb .u64).val c2] w0 v0 (fun y v' => ∃ r0 r1, y = Value.tuple #[(Zb .u64).val r0, (Zb .u64).val r1] ∧ (Zb .u64).rel v' r0 z.1 ∧ (Zb .u64).rel v' r1 z.2) :=
  div64_w hv p0 p1 p2 (ZTm hm)
theorem ZEn {w0 : World} {v0 : Ze} (hv : VIn v0 w0) {c0 : List Value} {a : Nat} (p0 : Rep.rel ZF v0 c0 a) {c1 : List Value} {n : Int} (p1 : Rep.rel (Zb .u64) v0 c1 n) {z : Nat × Int} (H : ZAf a n = some z) : Ret Tryz.prog 167 #[ZF.val c0, (Zb .u64).val c1] w0 v0 (fun y v' => ∃ r0 r1, y = .tuple #[ZF.val r0, (Zb .u64).val r1] ∧ ZF.rel v' r0 z.1 ∧ (Zb .u64).rel v' r1 z.2) := by
  obtain ⟨q1, n2, k3, rfl⟩ := Zfa p0; obtain ⟨rfl, r4⟩ := p1; refine Z7 (K := 35) (args := [.slice q1 n2 k3, .int .u64 (n)]) hv Tryz.func167 rfl rfl zl fun f S => ?_; unfold ZAf at H; refine sr ?_; refine mw S rfl fun f S => ?_; refine mw S rfl fun f S => ?_; refine oe ?_; refine Zj fun _ hN8 => ?_; obtain ⟨y9, e10, H⟩ := Zc H; refine Zr ?_; refine mv S rfl fun f S => ?_; refine ov S rfl (ZS S (ZB p0) rfl rfl ZZ) fun f S => ?_; obtain ⟨c23, e24⟩ : ∃ c : List Value, c = (List.replicate ((((Zg 18446744073709551616 a)).length : Int)).toNat [.int .u64 ((0 : Int))]).flatten := ⟨_, rfl⟩; obtain ⟨b18, w, h20, S⟩ := Z5b Zjc S (l := (((Zg 18446744073709551616 a)).length : Int)) (c := (((Zg 18446744073709551616 a)).length : Int)) (Zja e10).1 (Zja e10).2.1 (Zja e10).2.2.1 (Zja e10).2.2.2 e24; have h22 : Rep.rels (Zb .u64) v0 c23 (List.replicate ((((Zg 18446744073709551616 a)).length : Int)).toNat ((0 : Int))) := by rw [e24]; exact ZOb (show Rep.rel (Zb .u64) _ [.int .u64 ((0 : Int))] _ from (Zt (by decide))) _
  refine ZGa wn rfl zl (h20 rfl rfl) S fun f S => ?_; refine mw S rfl fun f S => ?_; refine Zq ?_; refine Zd (hN8 _ _ ?_); refine sr ?_; refine mw S rfl fun f S => ?_; refine oe ?_; refine Zj fun _ hN28 => ?_; refine Zj fun _ hN30 => ?_; obtain ⟨y31, e32, H⟩ := Zc H; refine Zr ?_; refine mv S rfl fun f S => ?_; refine ov S rfl (ZS S (ZB p0) rfl rfl ZZ) fun f S => ?_; refine ov S rfl (Zk S rfl rfl (ZLa e32)) fun f S => ?_; refine mw S rfl fun f S => ?_; refine Zq ?_; refine Zd (hN30 _ _ ?_); obtain ⟨ρ45, hc46, ho47⟩ := Zc H; refine Z4 (fun f w => ∃ (x34 : (List Int)) (x42 : Int) (b36 : Option Nat) (n40 : Nat) (k37 : Nat) (c38 : List Value) (v44 : Ze), (x34, x42) = ρ45 ∧ Ze.le v0 v44 ∧ St 35 w0 v0 [(6, .slice (mkA b36) (n40) k37), (7, .int .u64 (x42))] [Loc.own b36 211 1 (n40) k37 c38] v44 f w ∧ Rep.rels (Zb .u64) v44 c38 x34 ∧ n40 = x34.length ∧ inR .u64 x42) (fun _ hN49 => ?_) ?_
  · have H := hc46; refine wp_block ?_; obtain ⟨ρ100, hc101, ho102⟩ := Zc H; have S := S.fr' (σ' := [(0, .slice q1 n2 k3), (1, .int .u64 (n)), (6, .slice (mkA (some b18)) (((((Zg 18446744073709551616 a)).length : Int)).toNat) ((((Zg 18446744073709551616 a)).length : Int)).toNat), (7, .int .u64 ((0 : Int))), (8, .int .i64 (y31))]) rfl; refine ZHa hc101 (fun s166 f w => ∃ (x75 : (List Int)) (x83 : Int) (x85 : Int) (b77 : Option Nat) (n81 : Nat) (k78 : Nat) (c79 : List Value) (v87 : Ze), (x75, x83, x85) = s166 ∧ Ze.le v0 v87 ∧ St 35 w0 v0 [(0, .slice q1 n2 k3), (1, .int .u64 (n)), (6, .slice (mkA b77) (n81) k78), (7, .int .u64 (x83)), (8, .int .i64 (x85))] [Loc.own b77 211 1 (n81) k78 c79] v87 f w ∧ Rep.rels (Zb .u64) v87 c79 x75 ∧ n81 = x75.length ∧ inR .u64 x83 ∧ inR .i64 x85) ⟨_, _, _, some b18, ((((Zg 18446744073709551616 a)).length : Int)).toNat, ((((Zg 18446744073709551616 a)).length : Int)).toNat, c23, _, rfl, (leR _), S, h22, (Zyb (x := (0 : Int))), (by decide), (Zla e32).2⟩ ?_; rintro _ f w st ⟨x75, x83, x85, b77, n81, k78, c79, v87, hq, hl103, S, h80, hn82, r84, r86⟩ H N104 hN105 hO106; subst hq; have p0 := Za hl103 p0; refine Zj fun _ hN108 => ?_; refine sr ?_; refine mv S rfl fun f S => ?_; refine ov S rfl (Zk S rfl rfl Zob) fun f S => ?_; refine oe ?_; rcases ZI (decide ((0 : Int) ≤ x85)) with hb111 | hb111
    · have H := ZJ H hb111; refine ZR S rfl hb111 ?_; refine wp_skip ?_; refine Zd (hN108 _ _ ?_); refine Zj fun _ hN113 => ?_; refine wp_block ?_; obtain ⟨y114, e115, H⟩ := Zc H; obtain ⟨y122, e123, H⟩ := Zc H; obtain ⟨y132, e133, H⟩ := Zc H; refine Zr ?_; refine mv S rfl fun f S => ?_; refine mv S rfl fun f S => ?_; refine mv S rfl fun f S => ?_; refine mv S rfl fun f S => ?_; refine mv S rfl fun f S => ?_; obtain ⟨_, b145, o146, c143, rfl, h144, h142⟩ := ZCa p0 (Zn e115).2.1; obtain ⟨rfl, r147⟩ := h142; refine ov S rfl (Z9 S rfl rfl ZZ (Zn e115).1 (ltI (ZB p0) (Zn e115).2.2.1)) fun f S => ?_; refine ov S rfl (Zy S rfl ZDa (S.view h144)) fun f S => ?_; refine mv S rfl fun f S => ?_; refine ZK S wn rfl zl (Zp S [.int .u64 (x83), .int .u64 (y114), .int .u64 (n)] Ztk rfl rfl) (Zsk S.vin (show Rep.rel (Zb .u64) _ [.int .u64 (x83)] x83 from (Zt r84)) (show Rep.rel (Zb .u64) _ [.int .u64 (y114)] y114 from (Zt r147)) (show Rep.rel (Zb .u64) _ [.int .u64 (n)] n from (Zt r4)) e123) ?_; rintro _ v148 f w h149 ⟨c150, c151, rfl, h152, h153⟩ S; have p0 := Za h149 p0; have h80 := Zca h149 h80; have h144 := Atm h149 h144; obtain ⟨rfl, r154⟩ := h152; obtain ⟨rfl, r155⟩ := h153; refine mv S rfl fun f S => ?_; refine ov S rfl (ZN S rfl rfl) fun f S => ?_; refine ov S rfl (ZN S rfl rfl) fun f S => ?_; obtain ⟨b159, rfl⟩ := ZSb S (j := 0) rfl (ZUb hn82 (Zn e133).2.2.2)
      have h156 := ZMa h80 (Zn e133).2.1; obtain ⟨c157, h158⟩ : ∃ c, (List.take (Zb .u64).n (List.drop ((x85).toNat * (Zb .u64).n) c79)) = c := ⟨_, rfl⟩; rw [h158] at h156; obtain ⟨rfl, r160⟩ := h156; refine ov S rfl (Z9 S rfl rfl ZZ (Zn e133).1 (ltI hn82 (Zn e133).2.2.1)) fun f S => ?_; obtain ⟨w, h161, S⟩ := ZLb S ZDa (off := 0 + (x85).toNat * 1) (z := .int .u64 (y122.1)) (cs := [.int .u64 (y122.1)]) (ZAb rfl) rfl (i := 0) rfl (ZJb S (j := 0) rfl (ltN hn82 (Zn e133).2.2.2)) (by first | rfl | simp [Zea]); have h162 : Rep.rels (Zb .u64) v148 (List.take (0 + (x85).toNat * 1) c79 ++ [Value.int IntKind.u64 (y122.1)] ++ List.drop (0 + (x85).toNat * 1 + 1) c79) (x75.set (x85).toNat y122.1) := ZCb h80 (Zn e133).2.2.2 (show Rep.rel (Zb .u64) v148 [.int .u64 (y122.1)] _ from (Zt r154)) rfl rfl; have h163 : n81 = (x75.set (x85).toNat y122.1).length := ZEb hn82; refine Zha wn rfl (h161 rfl rfl) ?_; refine mw S rfl fun f S => ?_; refine Zq ?_; refine ZEa ?_; refine Zd (hN113 _ _ ?_); obtain ⟨y164, e165, H⟩ := Zc H; refine Zr ?_; refine mv S rfl fun f S => ?_; refine ov S rfl (Zk S rfl rfl (ZLa e165)) fun f S => ?_; refine mw S rfl fun f S => ?_; refine Zq ?_; have hz := Zi H; subst hz; have S := S.fr' (σ' := [(0, .slice (some ⟨b145, o146, none⟩) n2 k3), (1, .int .u64 (n)), (6, .slice (mkA (some b159)) (n81) k78), (7, .int .u64 (y122.2)), (8, .int .i64 (y164))]) rfl
      refine hN105 _ rfl _ _ ⟨_, _, _, some b159, n81, k78, (List.take (0 + (x85).toNat * 1) c79 ++ [Value.int IntKind.u64 (y122.1)] ++ List.drop (0 + (x85).toNat * 1 + 1) c79), _, rfl, (leT hl103 h149), S, h162, h163, r155, (Zla e165).2⟩
    have H := ZH H hb111; refine ZQ S rfl hb111 ?_; refine wp_exit ?_; refine Zaa ?_; have hz := Zi H; subst hz; have hq := hO106 _ rfl; subst hq; have H := ho102; refine Zaa ?_; refine ZAa ?_; have hz := Zi H; subst hz; have S := S.fr' (σ' := [(6, .slice (mkA b77) (n81) k78), (7, .int .u64 (x83))]) rfl; refine Zd (hN49 _ _ ⟨_, _, b77, n81, k78, c79, _, rfl, (leT (leR _) hl103), S, h80, hn82, r84⟩)
  rintro f w ⟨x34, x42, b36, n40, k37, c38, v44, hq, hl50, S, h39, hn41, r43⟩; subst hq; have H := ho47; refine Zd (hN28 _ _ ?_); refine Zj fun _ hN52 => ?_; obtain ⟨y56, e57, H⟩ := Zc H; refine Zr ?_; refine mv S rfl fun f S => ?_; obtain ⟨v65, h66, S, h67⟩ := S.pubSlice (i := 0) (A := (Zb .u64)) (l := x34) (ℓ' := []) rfl rfl hn41 h39 rfl; refine ZK S wn rfl zl (Zp S [.slice (mkA b36) (n40) k37] Zhd rfl rfl) (Zkd S.vin (show Rep.rel (ZD (Zb .u64)) _ [.slice (mkA b36) (n40) k37] x34 from h67) e57) ?_; rintro _ v68 f w h69 ⟨c70, rfl, h71⟩ S; have h67 := Za h69 h67; obtain ⟨q72, n73, k74, rfl⟩ := Zfa h71; refine mv S rfl fun f S => ?_; refine mw S rfl fun f S => ?_; refine mw S rfl fun f S => ?_; refine Zq ?_; refine Zd (hN52 _ _ ?_); refine wp_ret ?_; have hz := Zi H; subst hz; exact ZL S (ZPa rfl (ZP S rfl) (ZP S rfl)) ⟨[.slice q72 n73 k74], [.int .u64 (x42)], rfl, h71, (Zt r43)⟩
theorem ZNk {w0 : World} {v0 : Ze} (hv : VIn v0 w0) {c0 : List Value} {a : Nat} (p0 : Rep.rel ZF v0 c0 a) {c1 : List Value} {n : Int} (p1 : Rep.rel (Zb .u64) v0 c1 n) {z : Nat × Int} (hm : Zsd a n = some z) :
    Ret Tryz.prog 167 #[ZF.val c0, (Zb .u64).val c1] w0 v0 (fun y v' => ∃ r0 r1, y = Value.tuple #[ZF.val r0, (Zb .u64).val r1] ∧ ZF.rel v' r0 z.1 ∧ (Zb .u64).rel v' r1 z.2) :=
  ZEn hv p0 p1 (Zvn p1.2 hm)
theorem cmp_w {w0 : World} {v0 : Ze} (hv : VIn v0 w0) {c0 : List Value} {a : (List Int)} (p0 : Rep.rel (ZD (Zb .u64)) v0 c0 a) {c1 : List Value} {b : (List Int)} (p1 : Rep.rel (ZD (Zb .u64)) v0 c1 b) {z : Int} (H : ZAh a b = some z) : Ret Tryz.prog 87 #[(ZD (Zb .u64)).val c0, (ZD (Zb .u64)).val c1] w0 v0 (fun y v' => ∃ r0, y = (Zb .i64).val r0 ∧ (Zb .i64).rel v' r0 z) := by
  obtain ⟨q1, n2, k3, rfl⟩ := ZYa p0; obtain ⟨q4, n5, k6, rfl⟩ := ZYa p1; refine Z7 (K := 41) (args := [.slice q1 (n2) k3, .slice q4 (n5) k6]) hv Tryz.func87 rfl rfl zl fun f S => ?_; unfold ZAh at H; refine sr ?_; refine mw S rfl fun f S => ?_; refine oe ?_; refine Zj fun _ hN10 => ?_; refine sr ?_; refine mv S rfl fun f S => ?_; refine ov S rfl (ZS S (ZB p0) rfl rfl ZZ) fun f S => ?_; refine mv S rfl fun f S => ?_; refine ov S rfl (ZS S (ZB p1) rfl rfl ZZ) fun f S => ?_; refine ov S rfl (Zk S rfl rfl Zsg) fun f S => ?_; refine oe ?_; rcases ZI (((a.length : Int)) != ((b.length : Int))) with hb13 | hb13
  · have H := ZJ H hb13; refine ZR S rfl hb13 ?_; refine Zj fun _ hN15 => ?_; refine sr ?_; refine mv S rfl fun f S => ?_; refine ov S rfl (ZS S (ZB p0) rfl rfl ZZ) fun f S => ?_; refine mv S rfl fun f S => ?_; refine ov S rfl (ZS S (ZB p1) rfl rfl ZZ) fun f S => ?_; refine ov S rfl (Zk S rfl rfl Zwa) fun f S => ?_; refine oe ?_; rcases ZI (decide ((a.length : Int) < (b.length : Int))) with hb18 | hb18
    · have H := ZJ H hb18; refine ZR S rfl hb18 ?_; refine sr ?_; refine mw S rfl fun f S => ?_; refine oe ?_; refine wp_ret ?_; refine Z5 ?_; refine Z5 ?_; have hz := Zi H; subst hz; exact ZL S (ZX rfl (ZP S rfl)) ⟨[.int .i64 ((-1 : Int))], rfl, (Zt (by decide))⟩
    have H := ZH H hb18; refine ZQ S rfl hb18 ?_; refine wp_skip ?_; refine Zd (hN15 _ _ ?_); refine sr ?_; refine mw S rfl fun f S => ?_; refine oe ?_; refine wp_ret ?_; refine Z5 ?_; have hz := Zi H; subst hz; exact ZL S (ZX rfl (ZP S rfl)) ⟨[.int .i64 ((1 : Int))], rfl, (Zt (by decide))⟩
  have H := ZH H hb13; refine ZQ S rfl hb13 ?_; refine wp_skip ?_; refine Zd (hN10 _ _ ?_); refine Zj fun _ hN24 => ?_; refine Zj fun _ hN26 => ?_; obtain ⟨y27, e28, H⟩ := Zc H; refine Zr ?_; refine mv S rfl fun f S => ?_; refine ov S rfl (ZS S (ZB p0) rfl rfl ZZ) fun f S => ?_; refine ov S rfl (Zk S rfl rfl (ZLa e28)) fun f S => ?_; refine mw S rfl fun f S => ?_; refine Zq ?_; refine Zd (hN26 _ _ ?_); obtain ⟨ρ31, hc32, ho33⟩ := Zc H; refine Z4 (fun f w => ∃  (v30 : Ze), (.inl (())) = ρ31 ∧ Ze.le v0 v30 ∧ St 41 w0 v0 [] [] v30 f w) (fun _ hN35 => ?_) ?_
  · have H := hc32; refine wp_block ?_; obtain ⟨ρ45, hc46, ho47⟩ := Zc H; have S := S.fr' (σ' := [(0, .slice q1 (n2) k3), (1, .slice q4 (n5) k6), (5, .int .i64 (y27))]) rfl; refine ZHa hc46 (fun s122 f w => ∃ (x40 : Int) (v42 : Ze), x40 = s122 ∧ Ze.le v0 v42 ∧ St 41 w0 v0 [(0, .slice q1 (n2) k3), (1, .slice q4 (n5) k6), (5, .int .i64 (x40))] [] v42 f w ∧ inR .i64 x40) ⟨_, _, rfl, (leR _), S, (Zla e28).2⟩ ?_; rintro _ f w st ⟨x40, v42, hq, hl48, S, r41⟩ H N49 hN50 hO51; subst hq; have p0 := Za hl48 p0; have p1 := Za hl48 p1; refine Zj fun _ hN54 => ?_; refine sr ?_; refine mv S rfl fun f S => ?_; refine ov S rfl (Zk S rfl rfl Zob) fun f S => ?_; refine oe ?_; rcases ZI (decide ((0 : Int) ≤ x40)) with hb57 | hb57
    · have H := ZJ H hb57; refine ZR S rfl hb57 ?_; refine wp_skip ?_; refine Zd (hN54 _ _ ?_); refine Zj fun _ hN59 => ?_; refine wp_block ?_; refine Zj fun _ hN61 => ?_; refine Zj fun _ hN63 => ?_; obtain ⟨y64, e65, H⟩ := Zc H; obtain ⟨y72, e73, H⟩ := Zc H; refine Zya (fl := #[true, true, true, true, true, true, true, true, true]) Zza (by kernel_rfl) S ?_; intro ops O F w S; refine rf O F 0 rfl (by kernel_rfl) rfl S (Zv S rfl) fun f S => ?_; refine rf O F 1 rfl (by kernel_rfl) rfl S (Zv S rfl) fun f S => ?_; obtain ⟨_, b83, o84, c81, rfl, h82, h80⟩ := ZCa p0 (Zn e65).2.1; obtain ⟨rfl, r85⟩ := h80; refine rf O F 2 rfl (by kernel_rfl) rfl S (Z9 S rfl rfl ZZ (Zn e65).1 (ltI (ZB p0) (Zn e65).2.2.1)) fun f S => ?_; refine rf O F 3 rfl (by kernel_rfl) rfl S (Zy S rfl ZDa (S.view h82)) fun f S => ?_; refine rf O F 4 rfl (by kernel_rfl) rfl S (Zv S rfl) fun f S => ?_; refine rf O F 5 rfl (by kernel_rfl) rfl S (Zv S rfl) fun f S => ?_; obtain ⟨_, b89, o90, c87, rfl, h88, h86⟩ := ZCa p1 (Zn e73).2.1; obtain ⟨rfl, r91⟩ := h86; refine rf O F 6 rfl (by kernel_rfl) rfl S (Z9 S rfl rfl ZZ (Zn e73).1 (ltI (ZB p1) (Zn e73).2.2.1)) fun f S => ?_; refine rf O F 7 rfl (by kernel_rfl) rfl S (Zy S rfl ZDa (S.view h88)) fun f S => ?_; refine rf O F 8 rfl (by kernel_rfl) rfl S (Zk S rfl rfl Zwa) fun f S => ?_; refine Zba O F (by kernel_rfl) ?_
      refine Zd (hN63 _ _ ?_); rcases ZI (decide (y64 < y72)) with hb92 | hb92
      · have H := ZJ H hb92; refine ZR S rfl hb92 ?_; refine sr ?_; refine mw S rfl fun f S => ?_; refine oe ?_; refine wp_ret ?_; refine Z5 ?_; refine Zfb ?_; refine Z5 ?_; have hz := Zi H; subst hz; have hq := hO51 _ rfl; subst hq; have H := ho47; refine Z5 ?_; refine Zfb ?_; have hz := Zi H; subst hz; have H := ho33; refine Z5 ?_; refine Z5 ?_; have hz := Zi H; subst hz; exact ZL S (ZX rfl (ZP S rfl)) ⟨[.int .i64 ((-1 : Int))], rfl, (Zt (by decide))⟩
      have H := ZH H hb92; refine ZQ S rfl hb92 ?_; refine wp_skip ?_; refine Zd (hN61 _ _ ?_); refine Zj fun _ hN96 => ?_; obtain ⟨y97, e98, H⟩ := Zc H; obtain ⟨y103, e104, H⟩ := Zc H; refine Zya (fl := #[true, true, true, true, true, true, true, true, true]) Zza (by kernel_rfl) S ?_; intro ops O F w S; refine rf O F 0 rfl (by kernel_rfl) rfl S (Zv S rfl) fun f S => ?_; refine rf O F 1 rfl (by kernel_rfl) rfl S (Zv S rfl) fun f S => ?_; obtain ⟨c110, h111, h109⟩ := Z8c p0 (Zn e98).2.1; obtain ⟨rfl, r112⟩ := h109; refine rf O F 2 rfl (by kernel_rfl) rfl S (Z9 S rfl rfl ZZ (Zn e98).1 (ltI (ZB p0) (Zn e98).2.2.1)) fun f S => ?_; refine rf O F 3 rfl (by kernel_rfl) rfl S (Zy S rfl ZDa (S.view h111)) fun f S => ?_; refine rf O F 4 rfl (by kernel_rfl) rfl S (Zv S rfl) fun f S => ?_; refine rf O F 5 rfl (by kernel_rfl) rfl S (Zv S rfl) fun f S => ?_; obtain ⟨c114, h115, h113⟩ := Z8c p1 (Zn e104).2.1; obtain ⟨rfl, r116⟩ := h113; refine rf O F 6 rfl (by kernel_rfl) rfl S (Z9 S rfl rfl ZZ (Zn e104).1 (ltI (ZB p1) (Zn e104).2.2.1)) fun f S => ?_; refine rf O F 7 rfl (by kernel_rfl) rfl S (Zy S rfl ZDa (S.view h115)) fun f S => ?_; refine rf O F 8 rfl (by kernel_rfl) rfl S (Zk S rfl rfl ZNa) fun f S => ?_; refine Zba O F (by kernel_rfl) ?_; refine Zd (hN96 _ _ ?_); rcases ZI (decide (y103 < y97)) with hb117 | hb117
      · have H := ZJ H hb117; refine ZR S rfl hb117 ?_; refine sr ?_; refine mw S rfl fun f S => ?_; refine oe ?_; refine wp_ret ?_; refine Zfb ?_; refine Z5 ?_; have hz := Zi H; subst hz; have hq := hO51 _ rfl; subst hq; have H := ho47; refine Z5 ?_; refine Zfb ?_; have hz := Zi H; subst hz; have H := ho33; refine Z5 ?_; refine Z5 ?_; have hz := Zi H; subst hz; exact ZL S (ZX rfl (ZP S rfl)) ⟨[.int .i64 ((1 : Int))], rfl, (Zt (by decide))⟩
      have H := ZH H hb117; refine ZQ S rfl hb117 ?_; refine wp_skip ?_; refine ZEa ?_; refine Zd (hN59 _ _ ?_); obtain ⟨y120, e121, H⟩ := Zc H; refine Zr ?_; refine mv S rfl fun f S => ?_; refine ov S rfl (Zk S rfl rfl (ZLa e121)) fun f S => ?_; refine mw S rfl fun f S => ?_; refine Zq ?_; have hz := Zi H; subst hz; have S := S.fr' (σ' := [(0, .slice ((some ⟨b83, o84, none⟩)) (n2) k3), (1, .slice ((some ⟨b89, o90, none⟩)) (n5) k6), (5, .int .i64 (y120))]) rfl; refine hN50 _ rfl _ _ ⟨_, _, rfl, hl48, S, (Zla e121).2⟩
    have H := ZH H hb57; refine ZQ S rfl hb57 ?_; refine wp_exit ?_; refine Zaa ?_; have hz := Zi H; subst hz; have hq := hO51 _ rfl; subst hq; have H := ho47; refine Zaa ?_; refine ZAa ?_; have hz := Zi H; subst hz; have S := S.fr' (σ' := []) rfl; refine Zd (hN35 _ _ ⟨_, rfl, (leT (leR _) hl48), S⟩)
  rintro f w ⟨v30, hq, hl36, S⟩; subst hq; have H := ho33; refine Zd (hN24 _ _ ?_); refine sr ?_; refine mw S rfl fun f S => ?_; refine oe ?_; refine wp_ret ?_; have hz := Zi H; subst hz; exact ZL S (ZX rfl (ZP S rfl)) ⟨[.int .i64 ((0 : Int))], rfl, (Zt (by decide))⟩
theorem ZVe {w0 : World} {v0 : Ze} (hv : VIn v0 w0) {c0 : List Value} {a : Nat} (p0 : Rep.rel ZF v0 c0 a) {c1 : List Value} {b : Nat} (p1 : Rep.rel ZF v0 c1 b) {z : Int} (hm : Zad a b = some z) :
    Ret Tryz.prog 87 #[ZF.val c0, ZF.val c1] w0 v0 (fun y v' => ∃ r0, y = (Zb .i64).val r0 ∧ (Zb .i64).rel v' r0 z) :=
  cmp_w hv p0 p1 ((cmp_eq (ZUj p0) (ZUj p1)).trans hm)
theorem mul64_w {w0 : World} {v0 : Ze} (hv : VIn v0 w0) {c0 : List Value} {x : Int} (p0 : Rep.rel (Zb .u64) v0 c0 x) {c1 : List Value} {y : Int} (p1 : Rep.rel (Zb .u64) v0 c1 y) {z : Int × Int} (H : Zvg x y = some z) : Ret Tryz.prog 147 #[(Zb .u64).val c0, (Zb .u64).val c1] w0 v0 (fun y v' => ∃ r0 r1, y = .tuple #[(Zb .u64).val r0, (Zb .u64).val r1] ∧ (Zb .u64).rel v' r0 z.1 ∧ (Zb .u64).rel v' r1 z.2) := by
  obtain ⟨rfl, r1⟩ := p0; obtain ⟨rfl, r2⟩ := p1; refine Z7 (K := 51) (args := [.int .u64 (x), .int .u64 (y)]) hv Tryz.func147 rfl rfl zl fun f S => ?_; unfold Zvg at H; refine sr ?_; refine mw S rfl fun f S => ?_; refine mw S rfl fun f S => ?_; refine oe ?_; refine sr ?_; refine mv S rfl fun f S => ?_; refine ov S rfl (Zk S rfl rfl Z0e) fun f S => ?_; refine mw S rfl fun f S => ?_; refine oe ?_; refine Zj fun _ hN8 => ?_; obtain ⟨y9, e10, H⟩ := Zc H; refine Zr ?_; refine mv S rfl fun f S => ?_; refine ov S rfl (Zk S rfl rfl (ZDb e10)) fun f S => ?_; refine mw S rfl fun f S => ?_; refine Zq ?_; refine Zd (hN8 _ _ ?_); refine sr ?_; refine mv S rfl fun f S => ?_; refine ov S rfl (Zk S rfl rfl Z0e) fun f S => ?_; refine mw S rfl fun f S => ?_; refine oe ?_; refine Zj fun _ hN14 => ?_; obtain ⟨y15, e16, H⟩ := Zc H; refine Zr ?_; refine mv S rfl fun f S => ?_; refine ov S rfl (Zk S rfl rfl (ZDb e16)) fun f S => ?_; refine mw S rfl fun f S => ?_; refine Zq ?_; refine Zd (hN14 _ _ ?_); refine sr ?_; refine mv S rfl fun f S => ?_; refine mv S rfl fun f S => ?_; refine ov S rfl (Zk S rfl rfl Z2b) fun f S => ?_; refine mw S rfl fun f S => ?_; refine oe ?_; refine Zj fun _ hN20 => ?_; obtain ⟨y21, e22, H⟩ := Zc H; refine Zr ?_; refine mv S rfl fun f S => ?_; refine mv S rfl fun f S => ?_; refine ov S rfl (Zk S rfl rfl Z2b) fun f S => ?_; refine mv S rfl fun f S => ?_; refine ov S rfl (Zk S rfl rfl (ZDb e22)) fun f S => ?_
  refine ov S rfl (Zk S rfl rfl Z3b) fun f S => ?_; refine mw S rfl fun f S => ?_; refine Zq ?_; have S := S.fr' (σ' := [(0, .int .u64 (x)), (1, .int .u64 (y)), (6, .int .u64 (Zma .u64 x ((4294967295 : Int)))), (7, .int .u64 (y9)), (9, .int .u64 (y15)), (11, .int .u64 (IntKind.u64.wrap ((IntKind.u64.wrap (y9 * (Zma .u64 y ((4294967295 : Int))))) + y21)))]) rfl; refine Zd (hN20 _ _ ?_); refine sr ?_; refine mv S rfl fun f S => ?_; refine ov S rfl (Zk S rfl rfl Z0e) fun f S => ?_; refine mw S rfl fun f S => ?_; refine oe ?_; refine Zj fun _ hN26 => ?_; obtain ⟨y27, e28, H⟩ := Zc H; refine Zr ?_; refine mv S rfl fun f S => ?_; refine ov S rfl (Zk S rfl rfl (ZDb e28)) fun f S => ?_; refine mw S rfl fun f S => ?_; refine Zq ?_; refine Zd (hN26 _ _ ?_); refine sr ?_; refine mv S rfl fun f S => ?_; refine mv S rfl fun f S => ?_; refine mv S rfl fun f S => ?_; refine ov S rfl (Zk S rfl rfl Z2b) fun f S => ?_; refine ov S rfl (Zk S rfl rfl Z3b) fun f S => ?_; refine mw S rfl fun f S => ?_; refine oe ?_; refine Zj fun _ hN32 => ?_; obtain ⟨y33, e34, H⟩ := Zc H; refine Zr ?_; refine mv S rfl fun f S => ?_; refine mv S rfl fun f S => ?_; refine ov S rfl (Zk S rfl rfl Z2b) fun f S => ?_; refine mv S rfl fun f S => ?_; refine ov S rfl (Zk S rfl rfl Z3b) fun f S => ?_; refine mv S rfl fun f S => ?_; refine ov S rfl (Zk S rfl rfl (ZDb e34)) fun f S => ?_; refine ov S rfl (Zk S rfl rfl Z3b) fun f S => ?_
  refine mw S rfl fun f S => ?_; refine Zq ?_; refine Zd (hN32 _ _ ?_); refine sr ?_; refine mv S rfl fun f S => ?_; refine mv S rfl fun f S => ?_; refine ov S rfl (Zk S rfl rfl Z2b) fun f S => ?_; refine mw S rfl fun f S => ?_; have S := S.fr' (σ' := [(4, .int .u64 (IntKind.u64.wrap ((IntKind.u64.wrap ((IntKind.u64.wrap (y9 * y15)) + y27)) + y33))), (5, .int .u64 (IntKind.u64.wrap (x * y)))]) rfl; refine oe ?_; refine wp_ret ?_; have hz := Zi H; subst hz; exact ZL S (ZPa rfl (ZP S rfl) (ZP S rfl)) ⟨[.int .u64 (IntKind.u64.wrap ((IntKind.u64.wrap ((IntKind.u64.wrap (y9 * y15)) + y27)) + y33))], [.int .u64 (IntKind.u64.wrap (x * y))], rfl, (Zt (ZIa _ _)), (Zt (ZIa _ _))⟩
theorem Zui {w0 : World} {v0 : Ze} (hv : VIn v0 w0) {c0 : List Value} {x : Int} (p0 : Rep.rel (Zb .u64) v0 c0 x) {c1 : List Value} {y : Int} (p1 : Rep.rel (Zb .u64) v0 c1 y) {z : Int × Int} (hm : Zod x y = some z) :
    Ret Tryz.prog 147 #[(Zb .u64).val c0, (Zb .u64).val c1] w0 v0 (fun y v' => ∃ r0 r1, y = Value.tuple #[(Zb .u64).val r0, (Zb .u64).val r1] ∧ (Zb .u64).rel v' r0 z.1 ∧ (Zb .u64).rel v' r1 z.2) :=
  mul64_w hv p0 p1 (Zgo hm)
theorem take_w {w0 : World} {v0 : Ze} (hv : VIn v0 w0) {b0 off0 n0 k0 : Nat} {T0 : TypeId} {pre0 cs0 post0 : List Value} {u : (List Int)} (hg0 : w0.heap[b0]? = some (.cells (pre0 ++ cs0 ++ post0).toArray T0 (0, 0))) (ho0 : off0 = pre0.length) (hm0 : v0 b0 = none) (hn0 : n0 = u.length) (hc0 : n0 ≤ k0 ∧ k0 ≤ maxLen) (p0 : Rep.rels (Zb .u64) v0 cs0 u) {c1 : List Value} {v : Nat} (p1 : Rep.rel ZF v0 c1 v) {c2 : List Value} {q : Int} (p2 : Rep.rel (Zb .u64) v0 c2 q) {z : Bool × (List Int)} (H : ZRf u v q = some z) : RetL Tryz.prog 197 #[.slice (some ⟨b0, off0, none⟩) n0 k0, ZF.val c1, (Zb .u64).val c2] w0 v0 [b0] (fun y v' w' => (∃ r0, y = Zia.val r0 ∧ Zia.rel v' r0 z.1) ∧ v' b0 = none ∧ ∃ cs, w'.heap[b0]? = some (.cells (pre0 ++ cs ++ post0).toArray T0 (0, 0)) ∧ n0 = z.2.length ∧ Rep.rels (Zb .u64) v' cs z.2) := by
  obtain ⟨q1, n2, k3, rfl⟩ := Zfa p1; obtain ⟨rfl, r4⟩ := p2; refine Z3k (K := 79) (args := [.slice (some ⟨b0, off0, none⟩) (n0) k0, .slice q1 n2 k3, .int .u64 (q)]) hv hg0 hm0 Tryz.func197 rfl rfl zl fun f S => ?_; unfold ZRf at H; refine sr ?_; refine mw S rfl fun f S => ?_; refine oe ?_; refine Zj fun _ hN8 => ?_; obtain ⟨y9, e10, H⟩ := Zc H; obtain ⟨y11, e12, H⟩ := Zc H; refine Zr ?_; refine mv S rfl fun f S => ?_; refine ov S rfl (ZS S (ZB p1) rfl rfl ZZ) fun f S => ?_; refine ov S rfl (Zk S rfl rfl (Zsa e10)) fun f S => ?_; obtain ⟨c25, e26⟩ : ∃ c : List Value, c = (List.replicate (y9).toNat [.int .u64 ((0 : Int))]).flatten := ⟨_, rfl⟩; obtain ⟨b20, w, h22, S⟩ := Z5b Zjc S (l := y9) (c := y9) (Zja e12).1 (Zja e12).2.1 (Zja e12).2.2.1 (Zja e12).2.2.2 e26; have h24 : Rep.rels (Zb .u64) v0 c25 (List.replicate (y9).toNat ((0 : Int))) := by rw [e26]; exact ZOb (show Rep.rel (Zb .u64) _ [.int .u64 ((0 : Int))] _ from (Zt (by decide))) _
  refine ZGa wn rfl zl (h22 rfl rfl) S fun f S => ?_; refine mw S rfl fun f S => ?_; refine Zq ?_; refine Zd (hN8 _ _ ?_); refine sr ?_; refine mw S rfl fun f S => ?_; refine oe ?_; refine Zj fun _ hN30 => ?_; refine sr ?_; refine mv S rfl fun f S => ?_; refine ov S rfl (ZS S (ZB p1) rfl rfl ZZ) fun f S => ?_; refine mv S rfl fun f S => ?_; refine oe ?_; obtain ⟨ρ45, hc46, ho47⟩ := Zc H; refine Z4 (fun f w => ∃ (x34 : (List Int)) (x42 : Int) (b36 : Option Nat) (n40 : Nat) (k37 : Nat) (c38 : List Value) (v44 : Ze), (x34, x42) = ρ45 ∧ Ze.le v0 v44 ∧ St 79 ⟨w0, [b0]⟩ v0 [(0, .slice (some ⟨b0, off0, none⟩) (n0) k0), (1, .slice q1 n2 k3), (7, .slice (mkA b36) (n40) k37), (8, .int .u64 (x42))] [Loc.box b0 T0 (pre0 ++ cs0 ++ post0), Loc.own b36 211 1 (n40) k37 c38] v44 f w ∧ Rep.rels (Zb .u64) v44 c38 x34 ∧ n40 = x34.length ∧ inR .u64 x42) (fun _ hN49 => ?_) ?_
  · have H := hc46; refine wp_block ?_; obtain ⟨ρ283, hc284, ho285⟩ := Zc H; have S := S.fr' (σ' := [(0, .slice (some ⟨b0, off0, none⟩) (n0) k0), (1, .slice q1 n2 k3), (2, .int .u64 (q)), (7, .slice (mkA (some b20)) ((y9).toNat) (y9).toNat), (8, .int .u64 ((0 : Int))), (20, .slice q1 n2 k3), (21, .int .i64 ((((Zg 18446744073709551616 v)).length : Int))), (22, .int .i64 ((0 : Int)))]) rfl; have S := S.reorder (ℓ' := [Loc.box b0 T0 (pre0 ++ cs0 ++ post0), Loc.own (some b20) 211 1 ((y9).toNat) (y9).toNat c25]) [1, 0] rfl (by decide); refine ZHa hc284 (fun s359 f w => ∃ (x258 : (List Int)) (x266 : Int) (x268 : Int) (b260 : Option Nat) (n264 : Nat) (k261 : Nat) (c262 : List Value) (v270 : Ze), (x258, x266, x268) = s359 ∧ Ze.le v0 v270 ∧ St 79 ⟨w0, [b0]⟩ v0 [(0, .slice (some ⟨b0, off0, none⟩) (n0) k0), (1, .slice q1 n2 k3), (2, .int .u64 (q)), (7, .slice (mkA b260) (n264) k261), (8, .int .u64 (x266)), (20, .slice q1 n2 k3), (21, .int .i64 ((((Zg 18446744073709551616 v)).length : Int))), (22, .int .i64 (x268))] [Loc.box b0 T0 (pre0 ++ cs0 ++ post0), Loc.own b260 211 1 (n264) k261 c262] v270 f w ∧ Rep.rels (Zb .u64) v270 c262 x258 ∧ n264 = x258.length ∧ inR .u64 x266 ∧ inR .i64 x268) ⟨_, _, _, some b20, (y9).toNat, (y9).toNat, c25, _, rfl, (leR _), S, h24, (Zyb (x := (0 : Int))), (by decide), (by decide)⟩ ?_; rintro _ f w st ⟨x258, x266, x268, b260, n264, k261, c262, v270, hq, hl286, S, h263, hn265, r267, r269⟩ H N287 hN288 hO289; subst hq; have p0 := Zca hl286 p0
    have p1 := Za hl286 p1; refine sr ?_; refine ov S rfl (Zk S rfl rfl Zwa) fun f S => ?_; refine oe ?_; refine Zj fun _ hN293 => ?_; rcases ZI (decide (x268 < (((Zg 18446744073709551616 v)).length : Int))) with hb294 | hb294
    · have H := ZJ H hb294; refine ZR S rfl hb294 ?_; refine wp_skip ?_; refine Zd (hN293 _ _ ?_); refine Zj fun _ hN296 => ?_; refine wp_block ?_; refine Zj fun _ hN298 => ?_; obtain ⟨y299, e300, H⟩ := Zc H; refine Zr ?_; refine mv S rfl fun f S => ?_; obtain ⟨_, b310, o311, c308, rfl, h309, h307⟩ := ZCa p1 (Zn e300).2.1; obtain ⟨rfl, r312⟩ := h307; refine ov S rfl (Z9 S rfl rfl ZZ (Zn e300).1 (ltI (ZB p1) (Zn e300).2.2.1)) fun f S => ?_; refine ov S rfl (Zy S rfl ZDa (S.view h309)) fun f S => ?_; refine mw S rfl fun f S => ?_; refine mw S rfl fun f S => ?_; refine Zq ?_; refine Zd (hN298 _ _ ?_); refine Zj fun _ hN314 => ?_; obtain ⟨y315, e316, H⟩ := Zc H; refine Zr ?_; refine mv S rfl fun f S => ?_; refine mv S rfl fun f S => ?_; refine ZK S wn rfl zl (Zp S [.int .u64 (y299), .int .u64 (q)] Zni rfl rfl) (Zui S.vin (show Rep.rel (Zb .u64) _ [.int .u64 (y299)] y299 from (Zt r312)) (show Rep.rel (Zb .u64) _ [.int .u64 (q)] q from (Zt r4)) e316) ?_; rintro _ v325 f w h326 ⟨c327, c328, rfl, h329, h330⟩ S; have p0 := Zca h326 p0; have p1 := Za h326 p1; have h263 := Zca h326 h263; obtain ⟨rfl, r331⟩ := h329; obtain ⟨rfl, r332⟩ := h330; refine mv S rfl fun f S => ?_; refine ov S rfl (ZN S rfl rfl) fun f S => ?_; refine ov S rfl (ZN S rfl rfl) fun f S => ?_; refine mw S rfl fun f S => ?_; refine mw S rfl fun f S => ?_
      refine Zq ?_; refine Zd (hN314 _ _ ?_); refine sr ?_; refine mw S rfl fun f S => ?_; refine oe ?_; refine Zj fun _ hN336 => ?_; obtain ⟨y337, e338, H⟩ := Zc H; obtain ⟨y339, e340, H⟩ := Zc H; refine Zr ?_; refine mv S rfl fun f S => ?_; refine mv S rfl fun f S => ?_; refine mv S rfl fun f S => ?_; refine mv S rfl fun f S => ?_; refine ov S rfl (Zte S [.int .u64 (y315.2), .int .u64 (x266), .int .u64 ((0 : Int))] (ZTf Zmf e338) rfl rfl) fun f S => ?_; refine mv S rfl fun f S => ?_; refine ov S rfl (ZN S rfl rfl) fun f S => ?_; refine ov S rfl (ZN S rfl rfl) fun f S => ?_; obtain ⟨b352, rfl⟩ := ZSb S (j := 1) rfl (ZUb hn265 (Zn e340).2.2.2); have h349 := ZMa h263 (Zn e340).2.1; obtain ⟨c350, h351⟩ : ∃ c, (List.take (Zb .u64).n (List.drop ((x268).toNat * (Zb .u64).n) c262)) = c := ⟨_, rfl⟩; rw [h351] at h349; obtain ⟨rfl, r353⟩ := h349; refine ov S rfl (Z9 S rfl rfl ZZ (Zn e340).1 (ltI hn265 (Zn e340).2.2.1)) fun f S => ?_; obtain ⟨w, h354, S⟩ := ZLb S ZDa (off := 0 + (x268).toNat * 1) (z := .int .u64 (y337.1)) (cs := [.int .u64 (y337.1)]) (ZAb rfl) rfl (i := 1) rfl (ZJb S (j := 1) rfl (ltN hn265 (Zn e340).2.2.2)) (by first | rfl | simp [Zea]); have h355 : Rep.rels (Zb .u64) v325 (List.take (0 + (x268).toNat * 1) c262 ++ [Value.int IntKind.u64 (y337.1)] ++ List.drop (0 + (x268).toNat * 1 + 1) c262) (x258.set (x268).toNat y337.1) := ZCb h263 (Zn e340).2.2.2 (show Rep.rel (Zb .u64) v325 [.int .u64 (y337.1)] _ from (Zt (ZEh e338))) rfl rfl
      have h356 : n264 = (x258.set (x268).toNat y337.1).length := ZEb hn265; refine Zha wn rfl (h354 rfl rfl) ?_; refine mw S rfl fun f S => ?_; refine Zq ?_; have S := S.fr' (σ' := [(0, .slice (some ⟨b0, off0, none⟩) (n0) k0), (1, .slice (some ⟨b310, o311, none⟩) n2 k3), (2, .int .u64 (q)), (7, .slice (mkA (some b352)) (n264) k261), (11, .int .u64 (y315.1)), (13, .int .u64 (y337.2)), (20, .slice (some ⟨b310, o311, none⟩) n2 k3), (21, .int .i64 ((((Zg 18446744073709551616 v)).length : Int))), (22, .int .i64 (x268))]) rfl; refine Zd (hN336 _ _ ?_); refine Zr ?_; refine mv S rfl fun f S => ?_; refine mv S rfl fun f S => ?_; refine ov S rfl (Zk S rfl rfl Z3b) fun f S => ?_; refine mw S rfl fun f S => ?_; refine Zq ?_; refine ZEa ?_; refine Zd (hN296 _ _ ?_); obtain ⟨y357, e358, H⟩ := Zc H; refine Zr ?_; refine ov S rfl (Zk S rfl rfl (Zsa e358)) fun f S => ?_; refine mv S rfl fun f S => ?_; refine Zq ?_; have hz := Zi H; subst hz; have S := S.fr' (σ' := [(0, .slice (some ⟨b0, off0, none⟩) (n0) k0), (1, .slice (some ⟨b310, o311, none⟩) n2 k3), (2, .int .u64 (q)), (7, .slice (mkA (some b352)) (n264) k261), (8, .int .u64 (IntKind.u64.wrap (y315.1 + y337.2))), (20, .slice (some ⟨b310, o311, none⟩) n2 k3), (21, .int .i64 ((((Zg 18446744073709551616 v)).length : Int))), (22, .int .i64 (y357))]) rfl; refine hN288 _ rfl _ _ ⟨_, _, _, some b352, n264, k261, (List.take (0 + (x268).toNat * 1) c262 ++ [Value.int IntKind.u64 (y337.1)] ++ List.drop (0 + (x268).toNat * 1 + 1) c262), _, rfl, (leT hl286 h326), S, h355, h356, (ZIa _ _), (Zla e358).2⟩
    have H := ZH H hb294; refine ZQ S rfl hb294 ?_; refine wp_exit ?_; refine Zaa ?_; have hz := Zi H; subst hz; have hq := hO289 _ rfl; subst hq; have H := ho285; refine Zaa ?_; refine ZAa ?_; have hz := Zi H; subst hz; have S := S.fr' (σ' := [(0, .slice (some ⟨b0, off0, none⟩) (n0) k0), (1, .slice q1 n2 k3), (7, .slice (mkA b260) (n264) k261), (8, .int .u64 (x266))]) rfl; refine Zd (hN49 _ _ ⟨_, _, b260, n264, k261, c262, _, rfl, (leT (leR _) hl286), S, h263, hn265, r267⟩)
  rintro f w ⟨x34, x42, b36, n40, k37, c38, v44, hq, hl50, S, h39, hn41, r43⟩; subst hq; have H := ho47; have p0 := Zca hl50 p0; have p1 := Za hl50 p1; refine Zd (hN30 _ _ ?_); refine Zj fun _ hN52 => ?_; obtain ⟨y53, e54, H⟩ := Zc H; refine Zr ?_; refine mv S rfl fun f S => ?_; refine mv S rfl fun f S => ?_; refine ov S rfl (ZS S (ZB p1) rfl rfl ZZ) fun f S => ?_; refine mv S rfl fun f S => ?_; obtain ⟨b66, rfl⟩ := ZSb S (j := 1) rfl (ZUb hn41 (Zn e54).2.2.2); have h63 := ZMa h39 (Zn e54).2.1; obtain ⟨c64, h65⟩ : ∃ c, (List.take (Zb .u64).n (List.drop (((((Zg 18446744073709551616 v)).length : Int)).toNat * (Zb .u64).n) c38)) = c := ⟨_, rfl⟩; rw [h65] at h63; obtain ⟨rfl, r67⟩ := h63; refine ov S rfl (Z9 S rfl rfl ZZ (Zn e54).1 (ltI hn41 (Zn e54).2.2.1)) fun f S => ?_; obtain ⟨w, h68, S⟩ := ZLb S ZDa (off := 0 + ((((Zg 18446744073709551616 v)).length : Int)).toNat * 1) (z := .int .u64 (x42)) (cs := [.int .u64 (x42)]) (ZAb rfl) rfl (i := 1) rfl (ZJb S (j := 1) rfl (ltN hn41 (Zn e54).2.2.2)) (by first | rfl | simp [Zea]); have h69 : Rep.rels (Zb .u64) v44 (List.take (0 + ((((Zg 18446744073709551616 v)).length : Int)).toNat * 1) c38 ++ [Value.int IntKind.u64 (x42)] ++ List.drop (0 + ((((Zg 18446744073709551616 v)).length : Int)).toNat * 1 + 1) c38) (x34.set ((((Zg 18446744073709551616 v)).length : Int)).toNat x42) := ZCb h39 (Zn e54).2.2.2 (show Rep.rel (Zb .u64) v44 [.int .u64 (x42)] _ from (Zt r43)) rfl rfl
  have h70 : n40 = (x34.set ((((Zg 18446744073709551616 v)).length : Int)).toNat x42).length := ZEb hn41; refine Zha wn rfl (h68 rfl rfl) ?_; refine Zq ?_; refine Zd (hN52 _ _ ?_); refine Zj fun _ hN72 => ?_; refine Zj fun _ hN74 => ?_; obtain ⟨y85, e86, H⟩ := Zc H; obtain ⟨y104, e105, H⟩ := Zc H; obtain ⟨y113, e114, H⟩ := Zc H; refine Zr ?_; refine mv S rfl fun f S => ?_; have p0s120 := p0; have h69s120 := h69; have h129 := S.vst.le; obtain ⟨v121, o122, h123, h124, S, h125, h126, h127, h128⟩ := S.lendSeg (i := 0) (A := (Zb .u64)) (l := u) (ℓ' := [Loc.own (some b66) 211 1 (n40) k37 ((List.take (0 + ((((Zg 18446744073709551616 v)).length : Int)).toNat * 1) c38 ++ [Value.int IntKind.u64 (x42)] ++ List.drop (0 + ((((Zg 18446744073709551616 v)).length : Int)).toNat * 1 + 1) c38))]) rfl rfl ho0 p0 hn0 hc0; have h69 := Zca h123 h69; refine ZK S wn rfl zl (Zp S [.slice (some ⟨b0, off0, none⟩) (n0) k0] Zhd rfl rfl) (Zkd S.vin (show Rep.rel (ZD (Zb .u64)) _ [.slice (some ⟨b0, off0, none⟩) (n0) k0] u from h128) e86) ?_; rintro _ v130 f w h131 ⟨c132, rfl, h133⟩ S; have h128 := Za h131 h128; have h69 := Zca h131 h69; have h124 := h131 _ _ h124; obtain ⟨q134, n135, k136, rfl⟩ := Zfa h133; refine mv S rfl fun f S => ?_; have h128s137 := h128; have h69s137 := h69; have h133s137 := h133; have h124s137 := h124; have h146 := S.vst.le; obtain ⟨v138, o139, h140, h141, S, h142, h143, h144, h145⟩ := S.lendSlice (i := 0) (A := (Zb .u64)) (l := (x34.set ((((Zg 18446744073709551616 v)).length : Int)).toNat x42)) (ℓ' := []) rfl rfl rfl h69 h70
  have h128 := Za h140 h128; have h133 := Za h140 h133; have h124 := h140 _ _ h124; refine ZK S wn rfl zl (Zp S [.slice (mkA (some b66)) (n40) k37] Zhd rfl rfl) (Zkd S.vin (show Rep.rel (ZD (Zb .u64)) _ [.slice (mkA (some b66)) (n40) k37] ((x34.set ((((Zg 18446744073709551616 v)).length : Int)).toNat x42)) from h145) e105) ?_; rintro _ v147 f w h148 ⟨c149, rfl, h150⟩ S; have h128 := Za h148 h128; have h145 := Za h148 h145; have h133 := Za h148 h133; have h124 := h148 _ _ h124; have h141 := h148 _ _ h141; obtain ⟨q151, n152, k153, rfl⟩ := Zfa h150; refine ZK S wn rfl zl (Zp S [.slice q134 n135 k136, .slice q151 n152 k153] ZGe rfl rfl) (ZVe S.vin h133 h150 e114) ?_; rintro _ v154 f w h155 ⟨c156, rfl, h157⟩ S; have h128 := Za h155 h128; have h145 := Za h155 h145; have h133 := Za h155 h133; have h150 := Za h155 h150; have h124 := h155 _ _ h124; have h141 := h155 _ _ h141; obtain ⟨rfl, r158⟩ := h157; refine ov S rfl (Zk S rfl rfl Zwa) fun f S => ?_; refine Zq ?_; obtain ⟨v159, h160, S⟩ := S.takeBack (e := Loc.own (some b66) 211 1 (n40) k37 ((List.take (0 + ((((Zg 18446744073709551616 v)).length : Int)).toNat * 1) c38 ++ [Value.int IntKind.u64 (x42)] ++ List.drop (0 + ((((Zg 18446744073709551616 v)).length : Int)).toNat * 1 + 1) c38))) (leT (leT h140 h148) h155) rfl h141 h142 h143 h146 h144; have h128 := Za h160 h128s137; have h69 := Zca h160 h69s137; have h133 := Za h160 h133s137
  have h124 := h160 _ _ h124s137; obtain ⟨v161, h162, S⟩ := S.takeBack (e := Loc.box b0 T0 (pre0 ++ cs0 ++ post0)) (leT (leT h123 h131) h160) rfl h124 h125 h126 h129 h127; have p0 := Zca h162 p0s120; have h69 := Zca h162 h69s120; refine Zd (hN74 _ _ ?_); rcases ZI (decide (y113 < (0 : Int))) with hb163 | hb163
  · have H := ZJ H hb163; refine ZR S rfl hb163 ?_; refine sr ?_; refine mw S rfl fun f S => ?_; refine oe ?_; refine wp_ret ?_; refine Z5 ?_; have hz := Zi H; subst hz; exact Z6i S (ZX rfl (ZP S rfl)) ⟨⟨[.bool (false)], rfl, ZWa⟩, (S.boxAt (j := 0) rfl).2, _, (S.boxAt (j := 0) rfl).1, hn0, p0⟩
  have H := ZH H hb163; refine ZQ S rfl hb163 ?_; refine wp_skip ?_; refine Zd (hN72 _ _ ?_); refine sr ?_; refine mw S rfl fun f S => ?_; refine oe ?_; refine Zj fun _ hN169 => ?_; refine sr ?_; refine mv S rfl fun f S => ?_; refine ov S rfl (ZS S hn0 rfl rfl ZZ) fun f S => ?_; refine mv S rfl fun f S => ?_; refine oe ?_; obtain ⟨ρ178, hc179, ho180⟩ := Zc H; refine Z4 (fun f w => ∃ (x173 : (List Int)) (c174 : List Value) (v177 : Ze), x173 = ρ178 ∧ Ze.le v161 v177 ∧ St 79 ⟨w0, [b0]⟩ v0 [] [Loc.box b0 T0 (pre0 ++ c174 ++ post0)] v177 f w ∧ Rep.rels (Zb .u64) v177 c174 x173 ∧ n0 = x173.length) (fun _ hN182 => ?_) ?_
  · have H := hc179; refine wp_block ?_; obtain ⟨ρ201, hc202, ho203⟩ := Zc H; have S := S.fr' (σ' := [(0, .slice (some ⟨b0, off0, none⟩) (n0) k0), (7, .slice (mkA (some b66)) (n40) k37), (14, .int .u64 ((0 : Int))), (58, .int .i64 ((u.length : Int))), (59, .int .i64 ((0 : Int)))]) rfl; refine ZHa hc202 (fun s257 f w => ∃ (x186 : (List Int)) (x190 : Int) (x192 : Int) (c187 : List Value) (v194 : Ze), (x186, x190, x192) = s257 ∧ Ze.le v161 v194 ∧ St 79 ⟨w0, [b0]⟩ v0 [(0, .slice (some ⟨b0, off0, none⟩) (n0) k0), (7, .slice (mkA (some b66)) (n40) k37), (14, .int .u64 (x190)), (58, .int .i64 ((u.length : Int))), (59, .int .i64 (x192))] [Loc.box b0 T0 (pre0 ++ c187 ++ post0), Loc.own (some b66) 211 1 (n40) k37 ((List.take (0 + ((((Zg 18446744073709551616 v)).length : Int)).toNat * 1) c38 ++ [Value.int IntKind.u64 (x42)] ++ List.drop (0 + ((((Zg 18446744073709551616 v)).length : Int)).toNat * 1 + 1) c38))] v194 f w ∧ Rep.rels (Zb .u64) v194 c187 x186 ∧ n0 = x186.length ∧ inR .u64 x190 ∧ inR .i64 x192) ⟨_, _, _, cs0, _, rfl, (leR _), S, p0, hn0, (by decide), (by decide)⟩ ?_; rintro _ f w st ⟨x186, x190, x192, c187, v194, hq, hl204, S, h188, hn189, r191, r193⟩ H N205 hN206 hO207; subst hq; have h69 := Zca hl204 h69; refine sr ?_; refine ov S rfl (Zk S rfl rfl Zwa) fun f S => ?_; refine oe ?_; refine Zj fun _ hN211 => ?_; rcases ZI (decide (x192 < (u.length : Int))) with hb212 | hb212
    · have H := ZJ H hb212; refine ZR S rfl hb212 ?_; refine wp_skip ?_; refine Zd (hN211 _ _ ?_); refine Zj fun _ hN214 => ?_; refine wp_block ?_; refine sr ?_; refine mv S rfl fun f S => ?_; refine mw S rfl fun f S => ?_; refine oe ?_; obtain ⟨y217, e218, H⟩ := Zc H; obtain ⟨y223, e224, H⟩ := Zc H; obtain ⟨y229, e230, H⟩ := Zc H; obtain ⟨y231, e232, H⟩ := Zc H; refine Zya (fl := #[true, true, true, true, true, true, true, true, true, true, true, false, true, true, true, true, false, false]) Zza (by kernel_rfl) S ?_; intro ops O F w S; refine rf O F 0 rfl (by kernel_rfl) rfl S (Zv S rfl) fun f S => ?_; refine rf O F 1 rfl (by kernel_rfl) rfl S (Zv S rfl) fun f S => ?_; refine rf O F 2 rfl (by kernel_rfl) rfl S (Zv S rfl) fun f S => ?_; refine rf O F 3 rfl (by kernel_rfl) rfl S (Zv S rfl) fun f S => ?_; have h240 := ZMa h188 (Zn e218).2.1; obtain ⟨c241, h242⟩ : ∃ c, (List.take (Zb .u64).n (List.drop ((x192).toNat * (Zb .u64).n) c187)) = c := ⟨_, rfl⟩; rw [h242] at h240; obtain ⟨rfl, r243⟩ := h240; refine rf O F 4 rfl (by kernel_rfl) rfl S (Z9 S rfl rfl ZZ (Zn e218).1 (ltI hn189 (Zn e218).2.2.1)) fun f S => ?_; refine rf O F 5 rfl (by kernel_rfl) rfl S (Zy S rfl ZDa (Zig S (j := 0) rfl ho0 (Zbc h188 hn189) h242 (ltN hn189 (Zn e218).2.2.2) 0 [.int .u64 (y217)] rfl zl)) fun f S => ?_; refine rf O F 6 rfl (by kernel_rfl) rfl S (Zv S rfl) fun f S => ?_
      refine rf O F 7 rfl (by kernel_rfl) rfl S (Zv S rfl) fun f S => ?_; have h244 := ZMa h69 (Zn e224).2.1; obtain ⟨c245, h246⟩ : ∃ c, (List.take (Zb .u64).n (List.drop ((x192).toNat * (Zb .u64).n) (List.take (0 + ((((Zg 18446744073709551616 v)).length : Int)).toNat * 1) c38 ++ [Value.int IntKind.u64 (x42)] ++ List.drop (0 + ((((Zg 18446744073709551616 v)).length : Int)).toNat * 1 + 1) c38))) = c := ⟨_, rfl⟩; rw [h246] at h244; obtain ⟨rfl, r247⟩ := h244; refine rf O F 8 rfl (by kernel_rfl) rfl S (Z9 S rfl rfl ZZ (Zn e224).1 (ltI h70 (Zn e224).2.2.1)) fun f S => ?_; refine rf O F 9 rfl (by kernel_rfl) rfl S (Zy S rfl ZDa (Ztc S (j := 1) rfl h246 (ltN h70 (Zn e224).2.2.2) 0 [.int .u64 (y223)] rfl zl)) fun f S => ?_; refine rf O F 10 rfl (by kernel_rfl) rfl S (Zv S rfl) fun f S => ?_; refine Zs O F 11 (by kernel_rfl) ?_; refine nv [5, 9, 10, 4, 8, 2, 3, 6, 7] [0, 1] O rfl (by kernel_rfl) rfl S (Zte S [.int .u64 (y217), .int .u64 (y223), .int .u64 (x190)] (Zuj ZVj r243 r247 e230) rfl rfl) fun f S => ?_; refine ⟨(py S rfl rfl (Zv S rfl) (py S rfl rfl (Zv S rfl) Zl)), ?_⟩; refine rf O F 12 rfl (by kernel_rfl) rfl S (Zv S rfl) fun f S => ?_; refine rf O F 13 rfl (by kernel_rfl) rfl S (ZN S rfl rfl) fun f S => ?_; refine rf O F 14 rfl (by kernel_rfl) rfl S (ZN S rfl rfl) fun f S => ?_; have h248 := ZMa h188 (Zn e232).2.1; obtain ⟨c249, h250⟩ : ∃ c, (List.take (Zb .u64).n (List.drop ((x192).toNat * (Zb .u64).n) c187)) = c := ⟨_, rfl⟩
      rw [h250] at h248; obtain ⟨rfl, r251⟩ := h248; refine rf O F 15 rfl (by kernel_rfl) rfl S (Z9 S rfl rfl ZZ (Zn e232).1 (ltI hn189 (Zn e232).2.2.1)) fun f S => ?_; refine Zs O F 16 (by kernel_rfl) ?_; obtain ⟨w, h252, S⟩ := Ztm S (k := (x192).toNat) ZDa (z := .int .u64 (y229.1)) (c := [.int .u64 (y229.1)]) (ZAb rfl) rfl (i := 0) rfl ho0 (Zbc h188 hn189) (ltN hn189 (Zn e232).2.2.2) rfl (by first | rfl | simp [Zea]); have h253 : Rep.rels (Zb .u64) v194 (List.take (0 + (x192).toNat * 1) c187 ++ [Value.int IntKind.u64 (y229.1)] ++ List.drop (0 + (x192).toNat * 1 + 1) c187) (x186.set (x192).toNat y229.1) := ZCb h188 (Zn e232).2.2.2 (show Rep.rel (Zb .u64) v194 [.int .u64 (y229.1)] _ from (Zt (Znj e230))) rfl rfl; have h254 : n0 = (x186.set (x192).toNat y229.1).length := ZEb hn189; refine Z6 [0, 1, 2, 3, 4, 5, 6, 7, 8, 9, 10, 11, 12, 13, 15] [14] O rfl (by kernel_rfl) wn rfl (h252 rfl rfl) ?_; refine ⟨(py S rfl rfl (ZN S rfl rfl) Zl), ?_⟩; refine Zs O F 17 (by kernel_rfl) ?_; refine nv [0, 1, 2, 3, 4, 5, 6, 7, 8, 9, 10, 11, 12, 13, 14, 15, 16] [] O rfl (by kernel_rfl) rfl S (Zqa S rfl) fun f S => ?_; refine ⟨Zl, ?_⟩; refine Zba O F (by kernel_rfl) ?_; refine ZEa ?_; refine Zd (hN214 _ _ ?_); obtain ⟨y255, e256, H⟩ := Zc H; refine Zr ?_; refine ov S rfl (Zk S rfl rfl (Zsa e256)) fun f S => ?_; refine mv S rfl fun f S => ?_
      refine Zq ?_; have hz := Zi H; subst hz; have S := S.fr' (σ' := [(0, .slice (some ⟨b0, off0, none⟩) (n0) k0), (7, .slice (mkA (some b66)) (n40) k37), (14, .int .u64 (y229.2)), (58, .int .i64 ((u.length : Int))), (59, .int .i64 (y255))]) rfl; refine hN206 _ rfl _ _ ⟨_, _, _, (List.take (0 + (x192).toNat * 1) c187 ++ [Value.int IntKind.u64 (y229.1)] ++ List.drop (0 + (x192).toNat * 1 + 1) c187), _, rfl, hl204, S, h253, h254, (ZLj e230), (Zla e256).2⟩
    have H := ZH H hb212; refine ZQ S rfl hb212 ?_; refine wp_exit ?_; refine Zaa ?_; have hz := Zi H; subst hz; have hq := hO207 _ rfl; subst hq; have H := ho203; refine Zaa ?_; refine ZAa ?_; have hz := Zi H; subst hz; have S := S.fr' (σ' := []) rfl; have S := S.reorder (ℓ' := [Loc.box b0 T0 (pre0 ++ c187 ++ post0)]) [0] rfl (by decide); refine Zd (hN182 _ _ ⟨_, c187, _, rfl, (leT (leR _) hl204), S, h188, hn189⟩)
  rintro f w ⟨x173, c174, v177, hq, hl183, S, h175, hn176⟩; subst hq; have H := ho180; refine Zd (hN169 _ _ ?_); refine sr ?_; refine mw S rfl fun f S => ?_; refine oe ?_; refine wp_ret ?_; have hz := Zi H; subst hz; exact Z6i S (ZX rfl (ZP S rfl)) ⟨⟨[.bool (true)], rfl, ZWa⟩, (S.boxAt (j := 0) rfl).2, _, (S.boxAt (j := 0) rfl).1, hn176, h175⟩
theorem take_c {w0 : World} {v0 : Ze} (hv : VIn v0 w0) {b0 off0 n0 k0 : Nat} {T0 : TypeId} {pre0 cs0 post0 : List Value} {u : (List Int)} (hg0 : w0.heap[b0]? = some (.cells (pre0 ++ cs0 ++ post0).toArray T0 (0, 0))) (ho0 : off0 = pre0.length) (hm0 : v0 b0 = none) (hn0 : n0 = u.length) (hc0 : n0 ≤ k0 ∧ k0 ≤ maxLen) (p0 : Rep.rels (Zb .u64) v0 cs0 u) {c1 : List Value} {v : Nat} (p1 : Rep.rel ZF v0 c1 v) {c2 : List Value} {q : Int} (p2 : Rep.rel (Zb .u64) v0 c2 q) {z : Bool × (List Int)} (hm : ZQe u v q = some z) :
    RetL Tryz.prog 197 #[Value.slice (some ⟨b0, off0, none⟩) n0 k0, ZF.val c1, (Zb .u64).val c2] w0 v0 [b0] (fun y v' w' => (∃ r0, y = Zia.val r0 ∧ Zia.rel v' r0 z.1) ∧ v' b0 = none ∧ ∃ cs, w'.heap[b0]? = some (.cells (pre0 ++ cs ++ post0).toArray T0 (0, 0)) ∧ n0 = z.2.length ∧ Rep.rels (Zb .u64) v' cs z.2) :=
  take_w hv hg0 ho0 hm0 hn0 hc0 p0 p1 p2 (Zsl (Zqi p0) p2.2 hm)
theorem digit_w {w0 : World} {v0 : Ze} (hv : VIn v0 w0) {b0 off0 n0 k0 : Nat} {T0 : TypeId} {pre0 cs0 post0 : List Value} {u : (List Int)} (hg0 : w0.heap[b0]? = some (.cells (pre0 ++ cs0 ++ post0).toArray T0 (0, 0))) (ho0 : off0 = pre0.length) (hm0 : v0 b0 = none) (hn0 : n0 = u.length) (hc0 : n0 ≤ k0 ∧ k0 ≤ maxLen) (p0 : Rep.rels (Zb .u64) v0 cs0 u) {c1 : List Value} {v : Nat} (p1 : Rep.rel ZF v0 c1 v) {z : Int × (List Int)} (H : ZDf u v = some z) : RetL Tryz.prog 178 #[.slice (some ⟨b0, off0, none⟩) n0 k0, ZF.val c1] w0 v0 [b0] (fun y v' w' => (∃ r0, y = (Zb .u64).val r0 ∧ (Zb .u64).rel v' r0 z.1) ∧ v' b0 = none ∧ ∃ cs, w'.heap[b0]? = some (.cells (pre0 ++ cs ++ post0).toArray T0 (0, 0)) ∧ n0 = z.2.length ∧ Rep.rels (Zb .u64) v' cs z.2) := by
  obtain ⟨q1, n2, k3, rfl⟩ := Zfa p1; refine Z3k (K := 90) (args := [.slice (some ⟨b0, off0, none⟩) (n0) k0, .slice q1 n2 k3]) hv hg0 hm0 Tryz.func178 rfl rfl zl fun f S => ?_; unfold ZDf at H; refine sr ?_; refine mw S rfl fun f S => ?_; refine oe ?_; refine sr ?_; refine mv S rfl fun f S => ?_; refine ov S rfl (ZS S (ZB p1) rfl rfl ZZ) fun f S => ?_; refine mw S rfl fun f S => ?_; refine oe ?_; refine sr ?_; refine mw S rfl fun f S => ?_; refine oe ?_; refine Zj fun _ hN11 => ?_; refine Zj fun _ hN13 => ?_; obtain ⟨y14, e15, H⟩ := Zc H; obtain ⟨y20, e21, H⟩ := Zc H; obtain ⟨y22, e23, H⟩ := Zc H; refine Zya (fl := #[true, true, true, true, true, true, true, true, true, true]) Zza (by kernel_rfl) S ?_; intro ops O F w S; refine rf O F 0 rfl (by kernel_rfl) rfl S (Zv S rfl) fun f S => ?_; refine rf O F 1 rfl (by kernel_rfl) rfl S (Zv S rfl) fun f S => ?_; have h30 := ZMa p0 (Zn e15).2.1; obtain ⟨c31, h32⟩ : ∃ c, (List.take (Zb .u64).n (List.drop (((((Zg 18446744073709551616 v)).length : Int)).toNat * (Zb .u64).n) cs0)) = c := ⟨_, rfl⟩; rw [h32] at h30; obtain ⟨rfl, r33⟩ := h30; refine rf O F 2 rfl (by kernel_rfl) rfl S (Z9 S rfl rfl ZZ (Zn e15).1 (ltI hn0 (Zn e15).2.2.1)) fun f S => ?_; refine rf O F 3 rfl (by kernel_rfl) rfl S (Zy S rfl ZDa (Zig S (j := 0) rfl ho0 (Zbc p0 hn0) h32 (ltN hn0 (Zn e15).2.2.2) 0 [.int .u64 (y14)] rfl zl)) fun f S => ?_
  refine rf O F 4 rfl (by kernel_rfl) rfl S (Zv S rfl) fun f S => ?_; refine rf O F 5 rfl (by kernel_rfl) rfl S (Zv S rfl) fun f S => ?_; refine rf O F 6 rfl (by kernel_rfl) rfl S (Zk S rfl rfl (ZLa e21)) fun f S => ?_; obtain ⟨_, b37, o38, c35, rfl, h36, h34⟩ := ZCa p1 (Zn e23).2.1; obtain ⟨rfl, r39⟩ := h34; refine rf O F 7 rfl (by kernel_rfl) rfl S (Z9 S rfl rfl ZZ (Zn e23).1 (ltI (ZB p1) (Zn e23).2.2.1)) fun f S => ?_; refine rf O F 8 rfl (by kernel_rfl) rfl S (Zy S rfl ZDa (S.view h36)) fun f S => ?_; refine rf O F 9 rfl (by kernel_rfl) rfl S (Zk S rfl rfl Zwa) fun f S => ?_; refine Zba O F (by kernel_rfl) ?_; refine Zd (hN13 _ _ ?_); obtain ⟨ρ44, hc45, ho46⟩ := Zc H; refine Z4 (fun f w => ∃ (x41 : Int) (v43 : Ze), x41 = ρ44 ∧ Ze.le v0 v43 ∧ St 90 ⟨w0, [b0]⟩ v0 [(0, .slice (some ⟨b0, off0, none⟩) (n0) k0), (1, .slice (some ⟨b37, o38, none⟩) n2 k3), (6, .int .u64 (x41))] [Loc.box b0 T0 (pre0 ++ cs0 ++ post0)] v43 f w ∧ inR .u64 x41) (fun _ hN48 => ?_) ?_
  · have H := hc45; rcases ZI (decide (y14 < y22)) with hb116 | hb116
    · have H := ZJ H hb116; refine ZR S rfl hb116 ?_; refine sr ?_; refine mw S rfl fun f S => ?_; refine oe ?_; refine Zj fun _ hN120 => ?_; obtain ⟨y121, e122, H⟩ := Zc H; obtain ⟨y127, e128, H⟩ := Zc H; obtain ⟨y129, e130, H⟩ := Zc H; obtain ⟨y135, e136, H⟩ := Zc H; obtain ⟨y137, e138, H⟩ := Zc H; obtain ⟨y143, e144, H⟩ := Zc H; refine Zya (fl := #[true, true, true, true, true, true, true, true, true, true, true, true, true, true, false, true, true, true, false, false]) Zza (by kernel_rfl) S ?_; intro ops O F w S; refine rf O F 0 rfl (by kernel_rfl) rfl S (Zv S rfl) fun f S => ?_; refine rf O F 1 rfl (by kernel_rfl) rfl S (Zv S rfl) fun f S => ?_; have h153 := ZMa p0 (Zn e122).2.1; obtain ⟨c154, h155⟩ : ∃ c, (List.take (Zb .u64).n (List.drop (((((Zg 18446744073709551616 v)).length : Int)).toNat * (Zb .u64).n) cs0)) = c := ⟨_, rfl⟩; rw [h155] at h153; obtain ⟨rfl, r156⟩ := h153; refine rf O F 2 rfl (by kernel_rfl) rfl S (Z9 S rfl rfl ZZ (Zn e122).1 (ltI hn0 (Zn e122).2.2.1)) fun f S => ?_; refine rf O F 3 rfl (by kernel_rfl) rfl S (Zy S rfl ZDa (Zig S (j := 0) rfl ho0 (Zbc p0 hn0) h155 (ltN hn0 (Zn e122).2.2.2) 0 [.int .u64 (y121)] rfl zl)) fun f S => ?_; refine rf O F 4 rfl (by kernel_rfl) rfl S (Zv S rfl) fun f S => ?_; refine rf O F 5 rfl (by kernel_rfl) rfl S (Zv S rfl) fun f S => ?_; refine rf O F 6 rfl (by kernel_rfl) rfl S (Zk S rfl rfl (ZLa e128)) fun f S => ?_
      have h157 := ZMa p0 (Zn e130).2.1; obtain ⟨c158, h159⟩ : ∃ c, (List.take (Zb .u64).n (List.drop ((y127).toNat * (Zb .u64).n) cs0)) = c := ⟨_, rfl⟩; rw [h159] at h157; obtain ⟨rfl, r160⟩ := h157; refine rf O F 7 rfl (by kernel_rfl) rfl S (Z9 S rfl rfl ZZ (Zn e130).1 (ltI hn0 (Zn e130).2.2.1)) fun f S => ?_; refine rf O F 8 rfl (by kernel_rfl) rfl S (Zy S rfl ZDa (Zig S (j := 0) rfl ho0 (Zbc p0 hn0) h159 (ltN hn0 (Zn e130).2.2.2) 0 [.int .u64 (y129)] rfl zl)) fun f S => ?_; refine rf O F 9 rfl (by kernel_rfl) rfl S (Zv S rfl) fun f S => ?_; refine rf O F 10 rfl (by kernel_rfl) rfl S (Zv S rfl) fun f S => ?_; refine rf O F 11 rfl (by kernel_rfl) rfl S (Zk S rfl rfl (ZLa e136)) fun f S => ?_; obtain ⟨c162, h163, h161⟩ := Z8c p1 (Zn e138).2.1; obtain ⟨rfl, r164⟩ := h161; refine rf O F 12 rfl (by kernel_rfl) rfl S (Z9 S rfl rfl ZZ (Zn e138).1 (ltI (ZB p1) (Zn e138).2.2.1)) fun f S => ?_; refine rf O F 13 rfl (by kernel_rfl) rfl S (Zy S rfl ZDa (S.view h163)) fun f S => ?_; refine Zs O F 14 (by kernel_rfl) ?_; refine ZE [3, 8, 13, 2, 7, 12, 0, 1, 4, 6, 9, 11, 5, 10] [] O rfl (by kernel_rfl) S wn rfl zl (Zp S [.int .u64 (y121), .int .u64 (y129), .int .u64 (y137)] Ztk rfl rfl) (Zsk S.vin (show Rep.rel (Zb .u64) _ [.int .u64 (y121)] y121 from (Zt r156)) (show Rep.rel (Zb .u64) _ [.int .u64 (y129)] y129 from (Zt r160)) (show Rep.rel (Zb .u64) _ [.int .u64 (y137)] y137 from (Zt r164)) e144) ?_
      rintro _ v165 f w h166 ⟨c167, c168, rfl, h169, h170⟩ S; have p0 := Zca h166 p0; have p1 := Za h166 p1; have h163 := Atm h166 h163; obtain ⟨rfl, r171⟩ := h169; obtain ⟨rfl, r172⟩ := h170; refine ⟨Zl, ?_⟩; refine rf O F 15 rfl (by kernel_rfl) rfl S (Zv S rfl) fun f S => ?_; refine rf O F 16 rfl (by kernel_rfl) rfl S (ZN S rfl rfl) fun f S => ?_; refine rf O F 17 rfl (by kernel_rfl) rfl S (ZN S rfl rfl) fun f S => ?_; refine Zs O F 18 (by kernel_rfl) ?_; refine nv [0, 1, 2, 3, 4, 5, 6, 7, 8, 9, 10, 11, 12, 13, 14, 15, 16] [17] O rfl (by kernel_rfl) rfl S (Zqa S rfl) fun f S => ?_; refine ⟨(py S rfl rfl (ZN S rfl rfl) Zl), ?_⟩; refine Zs O F 19 (by kernel_rfl) ?_; refine nv [0, 1, 2, 3, 4, 5, 6, 7, 8, 9, 10, 11, 12, 13, 14, 15, 16, 17, 18] [] O rfl (by kernel_rfl) rfl S (Zqa S rfl) fun f S => ?_; refine ⟨Zl, ?_⟩; refine Zba O F (by kernel_rfl) ?_; have S := S.fr' (σ' := [(0, .slice (some ⟨b0, off0, none⟩) (n0) k0), (1, .slice (some ⟨b37, o38, none⟩) n2 k3), (5, .int .i64 ((((Zg 18446744073709551616 v)).length : Int))), (6, .int .u64 (y143.1)), (7, .int .u64 (y143.2))]) rfl; refine Zd (hN120 _ _ ?_); obtain ⟨ρ177, hc178, ho179⟩ := Zc H; refine Z4 (fun f w => ∃ (x174 : Int) (v176 : Ze), x174 = ρ177 ∧ Ze.le v165 v176 ∧ St 90 ⟨w0, [b0]⟩ v0 [(0, .slice (some ⟨b0, off0, none⟩) (n0) k0), (1, .slice (some ⟨b37, o38, none⟩) n2 k3), (6, .int .u64 (x174))] [Loc.box b0 T0 (pre0 ++ cs0 ++ post0)] v176 f w ∧ inR .u64 x174) (fun _ hN181 => ?_) ?_
      · have H := hc178; refine wp_block ?_; obtain ⟨ρ192, hc193, ho194⟩ := Zc H; have S := S.fr' (σ' := [(0, .slice (some ⟨b0, off0, none⟩) (n0) k0), (1, .slice (some ⟨b37, o38, none⟩) n2 k3), (5, .int .i64 ((((Zg 18446744073709551616 v)).length : Int))), (6, .int .u64 (y143.1)), (7, .int .u64 (y143.2))]) rfl; refine ZHa hc193 (fun s282 f w => ∃ (x183 : Int) (x185 : Int) (v187 : Ze), (x183, x185) = s282 ∧ Ze.le v165 v187 ∧ St 90 ⟨w0, [b0]⟩ v0 [(0, .slice (some ⟨b0, off0, none⟩) (n0) k0), (1, .slice (some ⟨b37, o38, none⟩) n2 k3), (5, .int .i64 ((((Zg 18446744073709551616 v)).length : Int))), (6, .int .u64 (x183)), (7, .int .u64 (x185))] [Loc.box b0 T0 (pre0 ++ cs0 ++ post0)] v187 f w ∧ inR .u64 x183 ∧ inR .u64 x185) ⟨_, _, _, rfl, (leR _), S, r171, r172⟩ ?_; rintro _ f w st ⟨x183, x185, v187, hq, hl195, S, r184, r186⟩ H N196 hN197 hO198; subst hq; have p0 := Zca hl195 p0; have p1 := Za hl195 p1; refine wp_block ?_; refine Zj fun _ hN200 => ?_; obtain ⟨y201, e202, H⟩ := Zc H; obtain ⟨y203, e204, H⟩ := Zc H; obtain ⟨y209, e210, H⟩ := Zc H; refine Zr ?_; refine mv S rfl fun f S => ?_; refine mv S rfl fun f S => ?_; refine mv S rfl fun f S => ?_; refine ov S rfl (Zk S rfl rfl (ZLa e202)) fun f S => ?_; obtain ⟨c220, h221, h219⟩ := Z8c p1 (Zn e204).2.1; obtain ⟨rfl, r222⟩ := h219; refine ov S rfl (Z9 S rfl rfl ZZ (Zn e204).1 (ltI (ZB p1) (Zn e204).2.2.1)) fun f S => ?_; refine ov S rfl (Zy S rfl ZDa (S.view h221)) fun f S => ?_
        refine ZK S wn rfl zl (Zp S [.int .u64 (x183), .int .u64 (y203)] Zni rfl rfl) (Zui S.vin (show Rep.rel (Zb .u64) _ [.int .u64 (x183)] x183 from (Zt r184)) (show Rep.rel (Zb .u64) _ [.int .u64 (y203)] y203 from (Zt r222)) e210) ?_; rintro _ v223 f w h224 ⟨c225, c226, rfl, h227, h228⟩ S; have p0 := Zca h224 p0; have p1 := Za h224 p1; have h221 := Atm h224 h221; obtain ⟨rfl, r229⟩ := h227; obtain ⟨rfl, r230⟩ := h228; refine mv S rfl fun f S => ?_; refine ov S rfl (ZN S rfl rfl) fun f S => ?_; refine ov S rfl (ZN S rfl rfl) fun f S => ?_; refine mw S rfl fun f S => ?_; refine mw S rfl fun f S => ?_; refine Zq ?_; refine Zd (hN200 _ _ ?_); refine Zj fun _ hN232 => ?_; refine Zj fun _ hN234 => ?_; obtain ⟨ρ238, hc239, ho240⟩ := Zc H; refine Z4 (fun f w => ∃ (x236 : Bool) (v237 : Ze), x236 = ρ238 ∧ Ze.le v223 v237 ∧ St 90 ⟨w0, [b0]⟩ v0 [(0, .slice (some ⟨b0, off0, none⟩) (n0) k0), (1, .slice (some ⟨b37, o38, none⟩) n2 k3), (5, .int .i64 ((((Zg 18446744073709551616 v)).length : Int))), (6, .int .u64 (x183)), (7, .int .u64 (x185)), (67, .bool (x236))] [Loc.box b0 T0 (pre0 ++ cs0 ++ post0)] v237 f w) (fun _ hN242 => ?_) ?_
        · have H := hc239; rcases ZI (decide (y209.1 < x185)) with hb268 | hb268
          · have H := ZJ H hb268; refine Zr ?_; refine mv S rfl fun f S => ?_; refine mv S rfl fun f S => ?_; refine ov S rfl (Zk S rfl rfl Zwa) fun f S => ?_; have S := S.bool (t := 53) rfl hb268; refine mv S rfl fun f S => ?_; refine ZA S (Zx S rfl rfl rfl zl) rfl zl fun f S => ?_; refine ZA S (Zx S rfl rfl rfl zl) rfl zl fun f S => ?_; refine ZA S (Zx S rfl rfl rfl zl) rfl zl fun f S => ?_; refine ZA S (Zx S rfl rfl rfl zl) rfl zl fun f S => ?_; refine ZA S (ZIc S rfl rfl rfl zl) rfl zl fun f S => ?_; refine ZA S (ZIc S rfl rfl rfl zl) rfl zl fun f S => ?_; refine ZA S (ZIc S rfl rfl rfl zl) rfl zl fun f S => ?_; refine ZA S (ZIc S rfl rfl rfl zl) rfl zl fun f S => ?_; refine ZA S (ZIc S rfl rfl rfl zl) rfl zl fun f S => ?_; refine ZA S (ZIc S rfl rfl rfl zl) rfl zl fun f S => ?_; refine ZA S (ZIc S rfl rfl rfl zl) rfl zl fun f S => ?_; refine ZA S (Zx S rfl rfl rfl zl) rfl zl fun f S => ?_; refine ov S rfl (Z2 S (b := true) rfl rfl) fun f S => ?_; refine Zq ?_; have S := S.fr' (σ' := [(0, .slice (some ⟨b0, off0, none⟩) (n0) k0), (1, .slice (some ⟨b37, o38, none⟩) n2 k3), (5, .int .i64 ((((Zg 18446744073709551616 v)).length : Int))), (6, .int .u64 (x183)), (7, .int .u64 (x185)), (55, undef), (56, undef), (57, undef), (58, undef), (59, undef), (60, undef), (61, undef), (62, undef), (63, undef), (64, undef), (65, undef), (66, undef), (67, .bool (true))]) rfl
            have hz := Zi H; subst hz; have S := S.fr' (σ' := [(0, .slice (some ⟨b0, off0, none⟩) (n0) k0), (1, .slice (some ⟨b37, o38, none⟩) n2 k3), (5, .int .i64 ((((Zg 18446744073709551616 v)).length : Int))), (6, .int .u64 (x183)), (7, .int .u64 (x185)), (67, .bool (true))]) rfl; refine Zd (hN242 _ _ ⟨_, _, rfl, (leR _), S⟩)
          have H := ZH H hb268; rcases ZI (y209.1 == x185) with hb269 | hb269
          · have H := ZJ H hb269; obtain ⟨y270, e271, H⟩ := Zc H; obtain ⟨y272, e273, H⟩ := Zc H; refine Zr ?_; refine mv S rfl fun f S => ?_; refine mv S rfl fun f S => ?_; refine ov S rfl (Zk S rfl rfl Zwa) fun f S => ?_; have S := S.bool (t := 53) rfl hb268; refine mv S rfl fun f S => ?_; refine ZG S (Zw S rfl rfl rfl zl) rfl zl (Zv S rfl) fun f S => ?_; refine ZG S (Zw S rfl rfl rfl zl) rfl zl (Zv S rfl) fun f S => ?_; refine ZG S (Zw S rfl rfl rfl zl) rfl zl (Zk S rfl rfl Zpa) fun f S => ?_; have S := S.bool (t := 57) rfl hb269; refine ZG S (Zw S rfl rfl rfl zl) rfl zl (Zv S rfl) fun f S => ?_; refine ZG S (Zw S rfl rfl rfl zl) rfl zl (Zv S rfl) fun f S => ?_; refine ZG S (Zw S rfl rfl rfl zl) rfl zl (Zv S rfl) fun f S => ?_; refine ZG S (Zw S rfl rfl rfl zl) rfl zl (Zv S rfl) fun f S => ?_; refine ZG S (Zw S rfl rfl rfl zl) rfl zl (Zk S rfl rfl (ZLa e271)) fun f S => ?_; have h278 := ZMa p0 (Zn e273).2.1; obtain ⟨c279, h280⟩ : ∃ c, (List.take (Zb .u64).n (List.drop ((y270).toNat * (Zb .u64).n) cs0)) = c := ⟨_, rfl⟩; rw [h280] at h278; obtain ⟨rfl, r281⟩ := h278; refine ZG S (Zw S rfl rfl rfl zl) rfl zl (Z9 S rfl rfl ZZ (Zn e273).1 (ltI hn0 (Zn e273).2.2.1)) fun f S => ?_; refine ZG S (Zw S rfl rfl rfl zl) rfl zl (Zy S rfl ZDa (Zig S (j := 0) rfl ho0 (Zbc p0 hn0) h280 (ltN hn0 (Zn e273).2.2.2) 0 [.int .u64 (y272)] rfl zl)) fun f S => ?_
            refine ZG S (Zw S rfl rfl rfl zl) rfl zl (Zk S rfl rfl ZZc) fun f S => ?_; refine ZG S (Zw S rfl rfl rfl zl) rfl zl (Z2 S (b := true) rfl rfl) fun f S => ?_; refine ov S rfl (Z2 S (b := false) rfl rfl) fun f S => ?_; refine Zq ?_; have S := S.fr' (σ' := [(0, .slice (some ⟨b0, off0, none⟩) (n0) k0), (1, .slice (some ⟨b37, o38, none⟩) n2 k3), (5, .int .i64 ((((Zg 18446744073709551616 v)).length : Int))), (6, .int .u64 (x183)), (7, .int .u64 (x185)), (55, .int .u64 (y209.1)), (56, .int .u64 (x185)), (57, .bool (true)), (58, .bool (true)), (59, .int .u64 (y209.2)), (60, .slice (some ⟨b0, off0, none⟩) (n0) k0), (61, .int .i64 ((((Zg 18446744073709551616 v)).length : Int))), (62, .int .i64 (y270)), (63, .pointer (some ⟨b0, off0 + (y270).toNat * 1, none⟩)), (64, .int .u64 (y272)), (65, .bool (decide (y209.2 ≤ y272))), (66, .bool (decide (y209.2 ≤ y272))), (67, .bool (decide (y209.2 ≤ y272)))]) rfl; have hz := Zi H; subst hz; have S := S.fr' (σ' := [(0, .slice (some ⟨b0, off0, none⟩) (n0) k0), (1, .slice (some ⟨b37, o38, none⟩) n2 k3), (5, .int .i64 ((((Zg 18446744073709551616 v)).length : Int))), (6, .int .u64 (x183)), (7, .int .u64 (x185)), (67, .bool (decide (y209.2 ≤ y272)))]) rfl; refine Zd (hN242 _ _ ⟨_, _, rfl, (leR _), S⟩)
          have H := ZH H hb269; refine Zr ?_; refine mv S rfl fun f S => ?_; refine mv S rfl fun f S => ?_; refine ov S rfl (Zk S rfl rfl Zwa) fun f S => ?_; have S := S.bool (t := 53) rfl hb268; refine mv S rfl fun f S => ?_; refine ZG S (Zw S rfl rfl rfl zl) rfl zl (Zv S rfl) fun f S => ?_; refine ZG S (Zw S rfl rfl rfl zl) rfl zl (Zv S rfl) fun f S => ?_; refine ZG S (Zw S rfl rfl rfl zl) rfl zl (Zk S rfl rfl Zpa) fun f S => ?_; have S := S.bool (t := 57) rfl hb269; refine ZG S (Zw S rfl rfl rfl zl) rfl zl (Zv S rfl) fun f S => ?_; refine ZA S (Zx S rfl rfl rfl zl) rfl zl fun f S => ?_; refine ZA S (Zx S rfl rfl rfl zl) rfl zl fun f S => ?_; refine ZA S (Zx S rfl rfl rfl zl) rfl zl fun f S => ?_; refine ZA S (Zx S rfl rfl rfl zl) rfl zl fun f S => ?_; refine ZA S (Zx S rfl rfl rfl zl) rfl zl fun f S => ?_; refine ZA S (Zx S rfl rfl rfl zl) rfl zl fun f S => ?_; refine ZA S (Zx S rfl rfl rfl zl) rfl zl fun f S => ?_; refine ZG S (Zw S rfl rfl rfl zl) rfl zl (Z2 S (b := false) rfl rfl) fun f S => ?_; refine ov S rfl (Z2 S (b := false) rfl rfl) fun f S => ?_; refine Zq ?_; have S := S.fr' (σ' := [(0, .slice (some ⟨b0, off0, none⟩) (n0) k0), (1, .slice (some ⟨b37, o38, none⟩) n2 k3), (5, .int .i64 ((((Zg 18446744073709551616 v)).length : Int))), (6, .int .u64 (x183)), (7, .int .u64 (x185)), (55, .int .u64 (y209.1)), (56, .int .u64 (x185)), (57, .bool (false)), (58, .bool (false)), (59, undef), (60, undef), (61, undef), (62, undef), (63, undef), (64, undef), (65, undef), (66, .bool (false)), (67, .bool (false))]) rfl
          have hz := Zi H; subst hz; have S := S.fr' (σ' := [(0, .slice (some ⟨b0, off0, none⟩) (n0) k0), (1, .slice (some ⟨b37, o38, none⟩) n2 k3), (5, .int .i64 ((((Zg 18446744073709551616 v)).length : Int))), (6, .int .u64 (x183)), (7, .int .u64 (x185)), (67, .bool (false))]) rfl; refine Zd (hN242 _ _ ⟨_, _, rfl, (leR _), S⟩)
        rintro f w ⟨x236, v237, hq, hl243, S⟩; subst hq; have H := ho240; have p0 := Zca hl243 p0; have p1 := Za hl243 p1; refine Zd (hN234 _ _ ?_); rcases ZI (x236) with hb244 | hb244
        · have H := ZJ H hb244; refine ZR S rfl hb244 ?_; refine wp_exit ?_; refine Zaa ?_; refine Zuh rfl ?_; have hz := Zi H; subst hz; have hq := hO198 _ rfl; subst hq; have H := ho194; refine Zaa ?_; refine ZAa ?_; have hz := Zi H; subst hz; have S := S.fr' (σ' := [(0, .slice (some ⟨b0, off0, none⟩) (n0) k0), (1, .slice (some ⟨b37, o38, none⟩) n2 k3), (6, .int .u64 (x183))]) rfl; refine Zd (hN181 _ _ ⟨_, _, rfl, (leT (leT (leT (leR _) hl195) h224) hl243), S, r184⟩)
        have H := ZH H hb244; refine ZQ S rfl hb244 ?_; refine wp_skip ?_; refine Zd (hN232 _ _ ?_); refine sr ?_; refine mv S rfl fun f S => ?_; refine ov S rfl (Zk S rfl rfl Zfd) fun f S => ?_; refine mw S rfl fun f S => ?_; refine oe ?_; refine sr ?_; refine mw S rfl fun f S => ?_; refine oe ?_; refine Zj fun _ hN250 => ?_; obtain ⟨y251, e252, H⟩ := Zc H; obtain ⟨y253, e254, H⟩ := Zc H; obtain ⟨y259, e260, H⟩ := Zc H; refine Zr ?_; refine mv S rfl fun f S => ?_; refine mv S rfl fun f S => ?_; refine mv S rfl fun f S => ?_; refine ov S rfl (Zk S rfl rfl (ZLa e252)) fun f S => ?_; obtain ⟨c262, h263, h261⟩ := Z8c p1 (Zn e254).2.1; obtain ⟨rfl, r264⟩ := h261; refine ov S rfl (Z9 S rfl rfl ZZ (Zn e254).1 (ltI (ZB p1) (Zn e254).2.2.1)) fun f S => ?_; refine ov S rfl (Zy S rfl ZDa (S.view h263)) fun f S => ?_; refine ov S rfl (Zte S [.int .u64 (x185), .int .u64 (y253), .int .u64 ((0 : Int))] (ZTf Zmf e260) rfl rfl) fun f S => ?_; refine mv S rfl fun f S => ?_; refine ov S rfl (ZN S rfl rfl) fun f S => ?_; refine ov S rfl (ZN S rfl rfl) fun f S => ?_; refine mw S rfl fun f S => ?_; refine mw S rfl fun f S => ?_; refine Zq ?_; refine Zd (hN250 _ _ ?_); refine sr ?_; refine mv S rfl fun f S => ?_; refine ov S rfl (Zk S rfl rfl ZNa) fun f S => ?_; refine oe ?_; rcases ZI (decide ((0 : Int) < y259.2)) with hb267 | hb267
        · have H := ZJ H hb267; refine ZR S rfl hb267 ?_; refine wp_exit ?_; refine Zuh rfl ?_; have hz := Zi H; subst hz; have hq := hO198 _ rfl; subst hq; have H := ho194; refine Zaa ?_; refine ZAa ?_; have hz := Zi H; subst hz; have S := S.fr' (σ' := [(0, .slice (some ⟨b0, off0, none⟩) (n0) k0), (1, .slice (some ⟨b37, o38, none⟩) n2 k3), (6, .int .u64 (IntKind.u64.wrap (x183 - ((1 : Int)))))]) rfl; refine Zd (hN181 _ _ ⟨_, _, rfl, (leT (leT (leT (leR _) hl195) h224) hl243), S, (ZIa _ _)⟩)
        have H := ZH H hb267; refine ZQ S rfl hb267 ?_; refine wp_skip ?_; refine ZEa ?_; have hz := Zi H; subst hz; have S := S.fr' (σ' := [(0, .slice (some ⟨b0, off0, none⟩) (n0) k0), (1, .slice (some ⟨b37, o38, none⟩) n2 k3), (5, .int .i64 ((((Zg 18446744073709551616 v)).length : Int))), (6, .int .u64 (IntKind.u64.wrap (x183 - ((1 : Int))))), (7, .int .u64 (y259.1))]) rfl; refine hN197 _ rfl _ _ ⟨_, _, _, rfl, (leT (leT hl195 h224) hl243), S, (ZIa _ _), (ZEh e260)⟩
      rintro f w ⟨x174, v176, hq, hl182, S, r175⟩; subst hq; have H := ho179; have p0 := Zca hl182 p0; have p1 := Za hl182 p1; have hz := Zi H; subst hz; have S := S.fr' (σ' := [(0, .slice (some ⟨b0, off0, none⟩) (n0) k0), (1, .slice (some ⟨b37, o38, none⟩) n2 k3), (6, .int .u64 (x174))]) rfl; refine Zd (hN48 _ _ ⟨_, _, rfl, (leT (leT (leR _) h166) hl182), S, r175⟩)
    have H := ZH H hb116; refine ZQ S rfl hb116 ?_; refine wp_skip ?_; have hz := Zi H; subst hz; have S := S.fr' (σ' := [(0, .slice (some ⟨b0, off0, none⟩) (n0) k0), (1, .slice (some ⟨b37, o38, none⟩) n2 k3), (6, .int .u64 ((18446744073709551615 : Int)))]) rfl; refine Zd (hN48 _ _ ⟨_, _, rfl, (leR _), S, (by decide)⟩)
  rintro f w ⟨x41, v43, hq, hl49, S, r42⟩; subst hq; have H := ho46; have p0 := Zca hl49 p0; have p1 := Za hl49 p1; refine Zd (hN11 _ _ ?_); refine Zj fun _ hN51 => ?_; obtain ⟨ρ60, hc61, ho62⟩ := Zc H; refine Z4 (fun f w => ∃ (x53 : (List Int)) (x57 : Int) (c54 : List Value) (v59 : Ze), (x53, x57) = ρ60 ∧ Ze.le v43 v59 ∧ St 90 ⟨w0, [b0]⟩ v0 [(6, .int .u64 (x57))] [Loc.box b0 T0 (pre0 ++ c54 ++ post0)] v59 f w ∧ Rep.rels (Zb .u64) v59 c54 x53 ∧ n0 = x53.length ∧ inR .u64 x57) (fun _ hN64 => ?_) ?_
  · have H := hc61; refine wp_block ?_; obtain ⟨ρ83, hc84, ho85⟩ := Zc H; have S := S.fr' (σ' := [(0, .slice (some ⟨b0, off0, none⟩) (n0) k0), (1, .slice (some ⟨b37, o38, none⟩) n2 k3), (6, .int .u64 (x41))]) rfl; refine ZHa hc84 (fun s115 f w => ∃ (x68 : (List Int)) (x72 : Int) (c69 : List Value) (v74 : Ze), (x68, x72) = s115 ∧ Ze.le v43 v74 ∧ St 90 ⟨w0, [b0]⟩ v0 [(0, .slice (some ⟨b0, off0, none⟩) (n0) k0), (1, .slice (some ⟨b37, o38, none⟩) n2 k3), (6, .int .u64 (x72))] [Loc.box b0 T0 (pre0 ++ c69 ++ post0)] v74 f w ∧ Rep.rels (Zb .u64) v74 c69 x68 ∧ n0 = x68.length ∧ inR .u64 x72) ⟨_, _, cs0, _, rfl, (leR _), S, p0, hn0, r42⟩ ?_; rintro _ f w st ⟨x68, x72, c69, v74, hq, hl86, S, h70, hn71, r73⟩ H N87 hN88 hO89; subst hq; have p1 := Za hl86 p1; refine Zj fun _ hN91 => ?_; refine Zj fun _ hN93 => ?_; obtain ⟨y94, e95, H⟩ := Zc H; refine Zr ?_; refine mv S rfl fun f S => ?_; refine mv S rfl fun f S => ?_; refine mv S rfl fun f S => ?_; refine ZBj S wn rfl zl (Zp S [.slice (some ⟨b0, off0, none⟩) (n0) k0, .slice (some ⟨b37, o38, none⟩) n2 k3, .int .u64 (x72)] k_en197 rfl rfl) (i := 0) rfl rfl (take_c S.vin (S.boxAt (j := 0) rfl).1 ho0 (S.boxAt (j := 0) rfl).2 hn71 hc0 h70 p1 (show Rep.rel (Zb .u64) _ [.int .u64 (x72)] x72 from (Zt r73)) e95) ?_; rintro _ v105 f w h106 ⟨⟨c112, rfl, h113⟩, h108, c111, h107, h110, h109⟩ hSf; have h70 := Zca h106 h70; have p1 := Za h106 p1; have S := hSf (Loc.box b0 T0 (pre0 ++ c111 ++ post0)) rfl h107 h108
    obtain rfl := h113; refine ov S rfl (Z3d S rfl) fun f S => ?_; refine Zq ?_; refine Zd (hN93 _ _ ?_); rcases ZI (!(y94.1)) with hb114 | hb114
    · have H := ZJ H hb114; refine ZR S rfl hb114 ?_; refine wp_skip ?_; refine Zd (hN91 _ _ ?_); refine wp_block ?_; refine Zr ?_; refine mv S rfl fun f S => ?_; refine ov S rfl (Zk S rfl rfl Zfd) fun f S => ?_; refine mw S rfl fun f S => ?_; refine Zq ?_; refine ZEa ?_; have hz := Zi H; subst hz; have S := S.fr' (σ' := [(0, .slice (some ⟨b0, off0, none⟩) (n0) k0), (1, .slice (some ⟨b37, o38, none⟩) n2 k3), (6, .int .u64 (IntKind.u64.wrap (x72 - ((1 : Int)))))]) rfl; refine hN88 _ rfl _ _ ⟨_, _, c111, _, rfl, (leT hl86 h106), S, h109, h110, (ZIa _ _)⟩
    have H := ZH H hb114; refine ZQ S rfl hb114 ?_; refine wp_exit ?_; refine Zaa ?_; have hz := Zi H; subst hz; have hq := hO89 _ rfl; subst hq; have H := ho85; refine Zaa ?_; refine ZAa ?_; have hz := Zi H; subst hz; have S := S.fr' (σ' := [(6, .int .u64 (x72))]) rfl; refine Zd (hN64 _ _ ⟨_, _, c111, _, rfl, (leT (leT (leR _) hl86) h106), S, h109, h110, r73⟩)
  rintro f w ⟨x53, x57, c54, v59, hq, hl65, S, h55, hn56, r58⟩; subst hq; have H := ho62; refine Zd (hN51 _ _ ?_); refine sr ?_; refine mv S rfl fun f S => ?_; refine mw S rfl fun f S => ?_; refine oe ?_; refine wp_ret ?_; have hz := Zi H; subst hz; exact Z6i S (ZX rfl (ZP S rfl)) ⟨⟨[.int .u64 (x57)], rfl, (Zt r58)⟩, (S.boxAt (j := 0) rfl).2, _, (S.boxAt (j := 0) rfl).1, hn56, h55⟩
theorem digit_c {w0 : World} {v0 : Ze} (hv : VIn v0 w0) {b0 off0 n0 k0 : Nat} {T0 : TypeId} {pre0 cs0 post0 : List Value} {u : (List Int)} (hg0 : w0.heap[b0]? = some (.cells (pre0 ++ cs0 ++ post0).toArray T0 (0, 0))) (ho0 : off0 = pre0.length) (hm0 : v0 b0 = none) (hn0 : n0 = u.length) (hc0 : n0 ≤ k0 ∧ k0 ≤ maxLen) (p0 : Rep.rels (Zb .u64) v0 cs0 u) {c1 : List Value} {v : Nat} (p1 : Rep.rel ZF v0 c1 v) {z : Int × (List Int)} (hm : Zhf u v = some z) :
    RetL Tryz.prog 178 #[Value.slice (some ⟨b0, off0, none⟩) n0 k0, ZF.val c1] w0 v0 [b0] (fun y v' w' => (∃ r0, y = (Zb .u64).val r0 ∧ (Zb .u64).rel v' r0 z.1) ∧ v' b0 = none ∧ ∃ cs, w'.heap[b0]? = some (.cells (pre0 ++ cs ++ post0).toArray T0 (0, 0)) ∧ n0 = z.2.length ∧ Rep.rels (Zb .u64) v' cs z.2) :=
  digit_w hv hg0 ho0 hm0 hn0 hc0 p0 p1 (ZYl (Zqi p0) hm)
theorem left_w {w0 : World} {v0 : Ze} (hv : VIn v0 w0) {c0 : List Value} {a : Nat} (p0 : Rep.rel ZF v0 c0 a) {c1 : List Value} {n : Int} (p1 : Rep.rel (Zb .i64) v0 c1 n) {z : Nat} (H : Zlf a n = some z) : Ret Tryz.prog 177 #[ZF.val c0, (Zb .i64).val c1] w0 v0 (fun y v' => ∃ r0, y = ZF.val r0 ∧ ZF.rel v' r0 z) := by
  obtain ⟨q1, n2, k3, rfl⟩ := Zfa p0; obtain ⟨rfl, r4⟩ := p1; refine Z7 (K := 58) (args := [.slice q1 n2 k3, .int .i64 (n)]) hv Tryz.func177 rfl rfl zl fun f S => ?_; unfold Zlf at H; refine sr ?_; refine mw S rfl fun f S => ?_; refine oe ?_; refine Zj fun _ hN8 => ?_; refine Zj fun _ hN10 => ?_; obtain ⟨ρ14, hc15, ho16⟩ := Zc H; refine Z4 (fun f w => ∃ (x12 : Bool) (v13 : Ze), x12 = ρ14 ∧ Ze.le v0 v13 ∧ St 58 w0 v0 [(0, .slice q1 n2 k3), (1, .int .i64 (n)), (14, .bool (x12))] [] v13 f w) (fun _ hN18 => ?_) ?_
  · have H := hc15; rcases ZI (((((Zg 18446744073709551616 a)).length : Int)) == ((0 : Int))) with hb211 | hb211
    · have H := ZJ H hb211; refine Zr ?_; refine mv S rfl fun f S => ?_; refine ov S rfl (ZS S (ZB p0) rfl rfl ZZ) fun f S => ?_; refine ov S rfl (Zk S rfl rfl Zpa) fun f S => ?_; have S := S.bool (t := 10) rfl hb211; refine mv S rfl fun f S => ?_; refine ZA S (Zx S rfl rfl rfl zl) rfl zl fun f S => ?_; refine ZA S (Zx S rfl rfl rfl zl) rfl zl fun f S => ?_; refine ov S rfl (Z2 S (b := true) rfl rfl) fun f S => ?_; refine Zq ?_; have hz := Zi H; subst hz; have S := S.fr' (σ' := [(0, .slice q1 n2 k3), (1, .int .i64 (n)), (14, .bool (true))]) rfl; refine Zd (hN18 _ _ ⟨_, _, rfl, (leR _), S⟩)
    have H := ZH H hb211; refine Zr ?_; refine mv S rfl fun f S => ?_; refine ov S rfl (ZS S (ZB p0) rfl rfl ZZ) fun f S => ?_; refine ov S rfl (Zk S rfl rfl Zpa) fun f S => ?_; have S := S.bool (t := 10) rfl hb211; refine mv S rfl fun f S => ?_; refine ZG S (Zw S rfl rfl rfl zl) rfl zl (Zv S rfl) fun f S => ?_; refine ZG S (Zw S rfl rfl rfl zl) rfl zl (Zk S rfl rfl Zpa) fun f S => ?_; refine ov S rfl (Z2 S (b := false) rfl rfl) fun f S => ?_; refine Zq ?_; have hz := Zi H; subst hz; have S := S.fr' (σ' := [(0, .slice q1 n2 k3), (1, .int .i64 (n)), (14, .bool (n == ((0 : Int))))]) rfl; refine Zd (hN18 _ _ ⟨_, _, rfl, (leR _), S⟩)
  rintro f w ⟨x12, v13, hq, hl19, S⟩; subst hq; have H := ho16; have p0 := Za hl19 p0; refine Zd (hN10 _ _ ?_); rcases ZI (x12) with hb20 | hb20
  · have H := ZJ H hb20; refine ZR S rfl hb20 ?_; refine sr ?_; refine mv S rfl fun f S => ?_; refine mw S rfl fun f S => ?_; refine oe ?_; refine wp_ret ?_; refine Z5 ?_; have hz := Zi H; subst hz; exact ZL S (ZX rfl (ZP S rfl)) ⟨[.slice q1 n2 k3], rfl, p0⟩
  have H := ZH H hb20; refine ZQ S rfl hb20 ?_; refine wp_skip ?_; refine Zd (hN8 _ _ ?_); refine Zj fun _ hN24 => ?_; obtain ⟨y25, e26, H⟩ := Zc H; obtain ⟨y27, e28, H⟩ := Zc H; obtain ⟨y29, e30, H⟩ := Zc H; obtain ⟨y31, e32, H⟩ := Zc H; refine Zr ?_; refine mv S rfl fun f S => ?_; refine ov S rfl (ZS S (ZB p0) rfl rfl ZZ) fun f S => ?_; refine mv S rfl fun f S => ?_; refine ov S rfl (Zk S rfl rfl (ZTb e26)) fun f S => ?_; refine ov S rfl (Zk S rfl rfl (Zsa e28)) fun f S => ?_; refine ov S rfl (Zk S rfl rfl (Zsa e30)) fun f S => ?_; obtain ⟨c45, e46⟩ : ∃ c : List Value, c = (List.replicate (y29).toNat [.int .u64 ((0 : Int))]).flatten := ⟨_, rfl⟩; obtain ⟨b40, w, h42, S⟩ := Z5b Zjc S (l := y29) (c := y29) (Zja e32).1 (Zja e32).2.1 (Zja e32).2.2.1 (Zja e32).2.2.2 e46; have h44 : Rep.rels (Zb .u64) v13 c45 (List.replicate (y29).toNat ((0 : Int))) := by rw [e46]; exact ZOb (show Rep.rel (Zb .u64) _ [.int .u64 ((0 : Int))] _ from (Zt (by decide))) _
  refine ZGa wn rfl zl (h42 rfl rfl) S fun f S => ?_; refine mw S rfl fun f S => ?_; refine Zq ?_; refine Zd (hN24 _ _ ?_); refine Zj fun _ hN48 => ?_; refine sr ?_; refine mv S rfl fun f S => ?_; refine ov S rfl (ZS S (ZB p0) rfl rfl ZZ) fun f S => ?_; refine mv S rfl fun f S => ?_; refine oe ?_; obtain ⟨ρ61, hc62, ho63⟩ := Zc H; refine Z4 (fun f w => ∃ (x52 : (List Int)) (b54 : Option Nat) (n58 : Nat) (k55 : Nat) (c56 : List Value) (v60 : Ze), x52 = ρ61 ∧ Ze.le v13 v60 ∧ St 58 w0 v0 [(5, .slice (mkA b54) (n58) k55)] [Loc.own b54 211 1 (n58) k55 c56] v60 f w ∧ Rep.rels (Zb .u64) v60 c56 x52 ∧ n58 = x52.length) (fun _ hN65 => ?_) ?_
  · have H := hc62; refine wp_block ?_; obtain ⟨ρ112, hc113, ho114⟩ := Zc H; have S := S.fr' (σ' := [(1, .int .i64 (n)), (5, .slice (mkA (some b40)) ((y29).toNat) (y29).toNat), (23, .slice q1 n2 k3), (24, .int .i64 ((((Zg 18446744073709551616 a)).length : Int))), (25, .int .i64 ((0 : Int)))]) rfl; refine ZHa hc113 (fun s210 f w => ∃ (x91 : (List Int)) (x99 : Int) (b93 : Option Nat) (n97 : Nat) (k94 : Nat) (c95 : List Value) (v101 : Ze), (x91, x99) = s210 ∧ Ze.le v13 v101 ∧ St 58 w0 v0 [(1, .int .i64 (n)), (5, .slice (mkA b93) (n97) k94), (23, .slice q1 n2 k3), (24, .int .i64 ((((Zg 18446744073709551616 a)).length : Int))), (25, .int .i64 (x99))] [Loc.own b93 211 1 (n97) k94 c95] v101 f w ∧ Rep.rels (Zb .u64) v101 c95 x91 ∧ n97 = x91.length ∧ inR .i64 x99) ⟨_, _, some b40, (y29).toNat, (y29).toNat, c45, _, rfl, (leR _), S, h44, (Zyb (x := (0 : Int))), (by decide)⟩ ?_; rintro _ f w st ⟨x91, x99, b93, n97, k94, c95, v101, hq, hl115, S, h96, hn98, r100⟩ H N116 hN117 hO118; subst hq; have p0 := Za hl115 p0; refine sr ?_; refine ov S rfl (Zk S rfl rfl Zwa) fun f S => ?_; refine oe ?_; refine Zj fun _ hN122 => ?_; rcases ZI (decide (x99 < (((Zg 18446744073709551616 a)).length : Int))) with hb123 | hb123
    · have H := ZJ H hb123; refine ZR S rfl hb123 ?_; refine wp_skip ?_; refine Zd (hN122 _ _ ?_); refine Zj fun _ hN125 => ?_; refine wp_block ?_; refine Zj fun _ hN127 => ?_; obtain ⟨y128, e129, H⟩ := Zc H; refine Zr ?_; refine mv S rfl fun f S => ?_; obtain ⟨_, b139, o140, c137, rfl, h138, h136⟩ := ZCa p0 (Zn e129).2.1; obtain ⟨rfl, r141⟩ := h136; refine ov S rfl (Z9 S rfl rfl ZZ (Zn e129).1 (ltI (ZB p0) (Zn e129).2.2.1)) fun f S => ?_; refine ov S rfl (Zy S rfl ZDa (S.view h138)) fun f S => ?_; refine mw S rfl fun f S => ?_; refine mw S rfl fun f S => ?_; refine Zq ?_; refine Zd (hN127 _ _ ?_); refine Zj fun _ hN143 => ?_; obtain ⟨y144, e145, H⟩ := Zc H; obtain ⟨y146, e147, H⟩ := Zc H; obtain ⟨y148, e149, H⟩ := Zc H; obtain ⟨y155, e156, H⟩ := Zc H; obtain ⟨y157, e158, H⟩ := Zc H; obtain ⟨y159, e160, H⟩ := Zc H; refine Zya (fl := #[true, true, true, true, true, true, true, true, true, true, true, true, true, false]) Zza (by kernel_rfl) S ?_; intro ops O F w S; refine rf O F 0 rfl (by kernel_rfl) rfl S (Zv S rfl) fun f S => ?_; refine rf O F 1 rfl (by kernel_rfl) rfl S (Zv S rfl) fun f S => ?_; refine rf O F 2 rfl (by kernel_rfl) rfl S (Zv S rfl) fun f S => ?_; refine rf O F 3 rfl (by kernel_rfl) rfl S (Zk S rfl rfl (ZTb e145)) fun f S => ?_; refine rf O F 4 rfl (by kernel_rfl) rfl S (Zk S rfl rfl (Zsa e147)) fun f S => ?_
      obtain ⟨b171, rfl⟩ := ZSb S (j := 0) rfl (ZUb hn98 (Zn e149).2.2.2); have h168 := ZMa h96 (Zn e149).2.1; obtain ⟨c169, h170⟩ : ∃ c, (List.take (Zb .u64).n (List.drop ((y146).toNat * (Zb .u64).n) c95)) = c := ⟨_, rfl⟩; rw [h170] at h168; obtain ⟨rfl, r172⟩ := h168; refine rf O F 5 rfl (by kernel_rfl) rfl S (Z9 S rfl rfl ZZ (Zn e149).1 (ltI hn98 (Zn e149).2.2.1)) fun f S => ?_; refine rf O F 6 rfl (by kernel_rfl) rfl S (Zy S rfl ZDa (Ztc S (j := 0) rfl h170 (ltN hn98 (Zn e149).2.2.2) 0 [.int .u64 (y148)] rfl zl)) fun f S => ?_; refine rf O F 7 rfl (by kernel_rfl) rfl S (Zv S rfl) fun f S => ?_; refine rf O F 8 rfl (by kernel_rfl) rfl S (Zv S rfl) fun f S => ?_; refine rf O F 9 rfl (by kernel_rfl) rfl S (Zk S rfl rfl (Zsc e156)) fun f S => ?_; refine rf O F 10 rfl (by kernel_rfl) rfl S (Zk S rfl rfl (Zud e158)) fun f S => ?_; refine rf O F 11 rfl (by kernel_rfl) rfl S (Zk S rfl rfl Zqe) fun f S => ?_; have h173 := ZMa h96 (Zn e160).2.1; obtain ⟨c174, h175⟩ : ∃ c, (List.take (Zb .u64).n (List.drop ((y146).toNat * (Zb .u64).n) c95)) = c := ⟨_, rfl⟩; rw [h175] at h173; obtain ⟨rfl, r176⟩ := h173; refine rf O F 12 rfl (by kernel_rfl) rfl S (Z9 S rfl rfl ZZ (Zn e160).1 (ltI hn98 (Zn e160).2.2.1)) fun f S => ?_; refine Zs O F 13 (by kernel_rfl) ?_; obtain ⟨w, h177, S⟩ := ZLb S ZDa (off := 0 + (y146).toNat * 1) (z := .int .u64 (orI .u64 y148 y157)) (cs := [.int .u64 (orI .u64 y148 y157)]) (ZAb rfl) rfl (i := 0) rfl (ZJb S (j := 0) rfl (ltN hn98 (Zn e160).2.2.2)) (by first | rfl | simp [Zea])
      have h178 : Rep.rels (Zb .u64) v101 (List.take (0 + (y146).toNat * 1) c95 ++ [Value.int IntKind.u64 (orI .u64 y148 y157)] ++ List.drop (0 + (y146).toNat * 1 + 1) c95) (x91.set (y146).toNat (orI .u64 y148 y157)) := ZCb h96 (Zn e160).2.2.2 (show Rep.rel (Zb .u64) v101 [.int .u64 (orI .u64 y148 y157)] _ from (Zt (ZIa _ _))) rfl rfl; have h179 : n97 = (x91.set (y146).toNat (orI .u64 y148 y157)).length := ZEb hn98; refine Z6 [0, 1, 2, 3, 4, 5, 6, 7, 8, 9, 10, 11, 12] [] O rfl (by kernel_rfl) wn rfl (h177 rfl rfl) ?_; refine ⟨Zl, ?_⟩; refine Zba O F (by kernel_rfl) ?_; refine Zd (hN143 _ _ ?_); obtain ⟨y180, e181, H⟩ := Zc H; obtain ⟨y182, e183, H⟩ := Zc H; obtain ⟨y184, e185, H⟩ := Zc H; obtain ⟨y186, e187, H⟩ := Zc H; obtain ⟨y188, e189, H⟩ := Zc H; obtain ⟨y190, e191, H⟩ := Zc H; obtain ⟨y192, e193, H⟩ := Zc H; refine Zr ?_; refine mv S rfl fun f S => ?_; refine mv S rfl fun f S => ?_; refine mv S rfl fun f S => ?_; refine ov S rfl (Zk S rfl rfl (ZTb e181)) fun f S => ?_; refine ov S rfl (Zk S rfl rfl (Zsa e183)) fun f S => ?_; refine ov S rfl (Zk S rfl rfl (Zsa e185)) fun f S => ?_; refine mv S rfl fun f S => ?_; refine mv S rfl fun f S => ?_; refine ov S rfl (Zk S rfl rfl (Zsc e187)) fun f S => ?_; refine ov S rfl (Zk S rfl rfl (ZLa e189)) fun f S => ?_; refine ov S rfl (Zk S rfl rfl (ZDb e191)) fun f S => ?_; have h201 := ZMa h178 (Zn e193).2.1
      obtain ⟨c202, h203⟩ : ∃ c, (List.take (Zb .u64).n (List.drop ((y184).toNat * (Zb .u64).n) (List.take (0 + (y146).toNat * 1) c95 ++ [Value.int IntKind.u64 (orI .u64 y148 y157)] ++ List.drop (0 + (y146).toNat * 1 + 1) c95))) = c := ⟨_, rfl⟩; rw [h203] at h201; obtain ⟨rfl, r204⟩ := h201; refine ov S rfl (Z9 S rfl rfl ZZ (Zn e193).1 (ltI h179 (Zn e193).2.2.1)) fun f S => ?_; obtain ⟨w, h205, S⟩ := ZLb S ZDa (off := 0 + (y184).toNat * 1) (z := .int .u64 (y190)) (cs := [.int .u64 (y190)]) (ZAb rfl) rfl (i := 0) rfl (ZJb S (j := 0) rfl (ltN h179 (Zn e193).2.2.2)) (by first | rfl | simp [Zea]); have h206 : Rep.rels (Zb .u64) v101 (List.take (0 + (y184).toNat * 1) ((List.take (0 + (y146).toNat * 1) c95 ++ [Value.int IntKind.u64 (orI .u64 y148 y157)] ++ List.drop (0 + (y146).toNat * 1 + 1) c95)) ++ [Value.int IntKind.u64 (y190)] ++ List.drop (0 + (y184).toNat * 1 + 1) ((List.take (0 + (y146).toNat * 1) c95 ++ [Value.int IntKind.u64 (orI .u64 y148 y157)] ++ List.drop (0 + (y146).toNat * 1 + 1) c95))) (((x91.set (y146).toNat (orI .u64 y148 y157))).set (y184).toNat y190) := ZCb h178 (Zn e193).2.2.2 (show Rep.rel (Zb .u64) v101 [.int .u64 (y190)] _ from (Zt (ZBd r141 e191))) rfl rfl; have h207 : n97 = (((x91.set (y146).toNat (orI .u64 y148 y157))).set (y184).toNat y190).length := ZEb h179; refine Zha wn rfl (h205 rfl rfl) ?_; refine Zq ?_; have S := S.fr' (σ' := [(1, .int .i64 (n)), (5, .slice (mkA (some b171)) (n97) k94), (23, .slice (some ⟨b139, o140, none⟩) n2 k3), (24, .int .i64 ((((Zg 18446744073709551616 a)).length : Int))), (25, .int .i64 (x99))]) rfl
      refine ZEa ?_; refine Zd (hN125 _ _ ?_); obtain ⟨y208, e209, H⟩ := Zc H; refine Zr ?_; refine ov S rfl (Zk S rfl rfl (Zsa e209)) fun f S => ?_; refine mv S rfl fun f S => ?_; refine Zq ?_; have hz := Zi H; subst hz; have S := S.fr' (σ' := [(1, .int .i64 (n)), (5, .slice (mkA (some b171)) (n97) k94), (23, .slice (some ⟨b139, o140, none⟩) n2 k3), (24, .int .i64 ((((Zg 18446744073709551616 a)).length : Int))), (25, .int .i64 (y208))]) rfl; refine hN117 _ rfl _ _ ⟨_, _, some b171, n97, k94, (List.take (0 + (y184).toNat * 1) ((List.take (0 + (y146).toNat * 1) c95 ++ [Value.int IntKind.u64 (orI .u64 y148 y157)] ++ List.drop (0 + (y146).toNat * 1 + 1) c95)) ++ [Value.int IntKind.u64 (y190)] ++ List.drop (0 + (y184).toNat * 1 + 1) ((List.take (0 + (y146).toNat * 1) c95 ++ [Value.int IntKind.u64 (orI .u64 y148 y157)] ++ List.drop (0 + (y146).toNat * 1 + 1) c95))), _, rfl, hl115, S, h206, h207, (Zla e209).2⟩
    have H := ZH H hb123; refine ZQ S rfl hb123 ?_; refine wp_exit ?_; refine Zaa ?_; have hz := Zi H; subst hz; have hq := hO118 _ rfl; subst hq; have H := ho114; refine Zaa ?_; refine ZAa ?_; have hz := Zi H; subst hz; have S := S.fr' (σ' := [(5, .slice (mkA b93) (n97) k94)]) rfl; refine Zd (hN65 _ _ ⟨_, b93, n97, k94, c95, _, rfl, (leT (leR _) hl115), S, h96, hn98⟩)
  rintro f w ⟨x52, b54, n58, k55, c56, v60, hq, hl66, S, h57, hn59⟩; subst hq; have H := ho63; refine Zd (hN48 _ _ ?_); refine Zj fun _ hN68 => ?_; obtain ⟨y72, e73, H⟩ := Zc H; refine Zr ?_; refine mv S rfl fun f S => ?_; obtain ⟨v81, h82, S, h83⟩ := S.pubSlice (i := 0) (A := (Zb .u64)) (l := x52) (ℓ' := []) rfl rfl hn59 h57 rfl; refine ZK S wn rfl zl (Zp S [.slice (mkA b54) (n58) k55] Zhd rfl rfl) (Zkd S.vin (show Rep.rel (ZD (Zb .u64)) _ [.slice (mkA b54) (n58) k55] x52 from h83) e73) ?_; rintro _ v84 f w h85 ⟨c86, rfl, h87⟩ S; have h83 := Za h85 h83; obtain ⟨q88, n89, k90, rfl⟩ := Zfa h87; refine mw S rfl fun f S => ?_; refine Zq ?_; refine Zd (hN68 _ _ ?_); refine wp_ret ?_; have hz := Zi H; subst hz; exact ZL S (ZX rfl (ZP S rfl)) ⟨[.slice q88 n89 k90], rfl, h87⟩
theorem Z2h {w0 : World} {v0 : Ze} (hv : VIn v0 w0) {c0 : List Value} {a : Nat} (p0 : Rep.rel ZF v0 c0 a) {c1 : List Value} {n : Int} (p1 : Rep.rel (Zb .i64) v0 c1 n) {z : Nat} (hm : Zic a n = some z) :
    Ret Tryz.prog 177 #[ZF.val c0, (Zb .i64).val c1] w0 v0 (fun y v' => ∃ r0, y = ZF.val r0 ∧ ZF.rel v' r0 z) :=
  left_w hv p0 p1 (Zwl hm)
theorem right_w {w0 : World} {v0 : Ze} (hv : VIn v0 w0) {c0 : List Value} {a : Nat} (p0 : Rep.rel ZF v0 c0 a) {c1 : List Value} {n : Int} (p1 : Rep.rel (Zb .i64) v0 c1 n) {z : Nat} (H : Zcg a n = some z) : Ret Tryz.prog 179 #[ZF.val c0, (Zb .i64).val c1] w0 v0 (fun y v' => ∃ r0, y = ZF.val r0 ∧ ZF.rel v' r0 z) := by
  obtain ⟨q1, n2, k3, rfl⟩ := Zfa p0; obtain ⟨rfl, r4⟩ := p1; refine Z7 (K := 65) (args := [.slice q1 n2 k3, .int .i64 (n)]) hv Tryz.func179 rfl rfl zl fun f S => ?_; unfold Zcg at H; refine sr ?_; refine mw S rfl fun f S => ?_; refine oe ?_; refine Zj fun _ hN8 => ?_; refine Zj fun _ hN10 => ?_; obtain ⟨y11, e12, H⟩ := Zc H; refine Zr ?_; refine mv S rfl fun f S => ?_; refine ov S rfl (Zk S rfl rfl (ZTb e12)) fun f S => ?_; refine mv S rfl fun f S => ?_; refine ov S rfl (ZS S (ZB p0) rfl rfl ZZ) fun f S => ?_; refine ov S rfl (Zk S rfl rfl Zob) fun f S => ?_; refine Zq ?_; refine Zd (hN10 _ _ ?_); rcases ZI (decide ((((Zg 18446744073709551616 a)).length : Int) ≤ y11)) with hb13 | hb13
  · have H := ZJ H hb13; refine ZR S rfl hb13 ?_; refine sr ?_; refine mw S rfl fun f S => ?_; refine oe ?_; refine wp_ret ?_; refine Z5 ?_; have hz := Zi H; subst hz; exact ZL S (ZX rfl (ZP S rfl)) ⟨[.slice none 0 0], rfl, (Zef _)⟩
  have H := ZH H hb13; refine ZQ S rfl hb13 ?_; refine wp_skip ?_; refine Zd (hN8 _ _ ?_); refine Zj fun _ hN17 => ?_; obtain ⟨y18, e19, H⟩ := Zc H; obtain ⟨y20, e21, H⟩ := Zc H; obtain ⟨y22, e23, H⟩ := Zc H; refine Zr ?_; refine mv S rfl fun f S => ?_; refine ov S rfl (ZS S (ZB p0) rfl rfl ZZ) fun f S => ?_; refine mv S rfl fun f S => ?_; refine ov S rfl (Zk S rfl rfl (ZTb e19)) fun f S => ?_; refine ov S rfl (Zk S rfl rfl (ZLa e21)) fun f S => ?_; obtain ⟨c36, e37⟩ : ∃ c : List Value, c = (List.replicate (y20).toNat [.int .u64 ((0 : Int))]).flatten := ⟨_, rfl⟩; obtain ⟨b31, w, h33, S⟩ := Z5b Zjc S (l := y20) (c := y20) (Zja e23).1 (Zja e23).2.1 (Zja e23).2.2.1 (Zja e23).2.2.2 e37; have h35 : Rep.rels (Zb .u64) v0 c36 (List.replicate (y20).toNat ((0 : Int))) := by rw [e37]; exact ZOb (show Rep.rel (Zb .u64) _ [.int .u64 ((0 : Int))] _ from (Zt (by decide))) _
  refine ZGa wn rfl zl (h33 rfl rfl) S fun f S => ?_; refine mw S rfl fun f S => ?_; refine Zq ?_; refine Zd (hN17 _ _ ?_); refine Zj fun _ hN39 => ?_; refine sr ?_; refine mv S rfl fun f S => ?_; refine ov S rfl (ZS S (Zyb (x := (0 : Int))) rfl rfl ZZ) fun f S => ?_; refine mv S rfl fun f S => ?_; refine oe ?_; obtain ⟨ρ52, hc53, ho54⟩ := Zc H; refine Z4 (fun f w => ∃ (x43 : (List Int)) (b45 : Option Nat) (n49 : Nat) (k46 : Nat) (c47 : List Value) (v51 : Ze), x43 = ρ52 ∧ Ze.le v0 v51 ∧ St 65 w0 v0 [(5, .slice (mkA b45) (n49) k46)] [Loc.own b45 211 1 (n49) k46 c47] v51 f w ∧ Rep.rels (Zb .u64) v51 c47 x43 ∧ n49 = x43.length) (fun _ hN56 => ?_) ?_
  · have H := hc53; refine wp_block ?_; obtain ⟨ρ103, hc104, ho105⟩ := Zc H; have S := S.fr' (σ' := [(0, .slice q1 n2 k3), (1, .int .i64 (n)), (5, .slice (mkA (some b31)) ((y20).toNat) (y20).toNat), (19, .int .i64 ((((List.replicate (y20).toNat ((0 : Int)))).length : Int))), (20, .int .i64 ((0 : Int)))]) rfl; refine ZHa hc104 (fun s236 f w => ∃ (x82 : (List Int)) (x90 : Int) (b84 : Option Nat) (n88 : Nat) (k85 : Nat) (c86 : List Value) (v92 : Ze), (x82, x90) = s236 ∧ Ze.le v0 v92 ∧ St 65 w0 v0 [(0, .slice q1 n2 k3), (1, .int .i64 (n)), (5, .slice (mkA b84) (n88) k85), (19, .int .i64 ((((List.replicate (y20).toNat ((0 : Int)))).length : Int))), (20, .int .i64 (x90))] [Loc.own b84 211 1 (n88) k85 c86] v92 f w ∧ Rep.rels (Zb .u64) v92 c86 x82 ∧ n88 = x82.length ∧ inR .i64 x90) ⟨_, _, some b31, (y20).toNat, (y20).toNat, c36, _, rfl, (leR _), S, h35, (Zyb (x := (0 : Int))), (by decide)⟩ ?_; rintro _ f w st ⟨x82, x90, b84, n88, k85, c86, v92, hq, hl106, S, h87, hn89, r91⟩ H N107 hN108 hO109; subst hq; have p0 := Za hl106 p0; refine sr ?_; refine ov S rfl (Zk S rfl rfl Zwa) fun f S => ?_; refine oe ?_; refine Zj fun _ hN113 => ?_; rcases ZI (decide (x90 < (((List.replicate (y20).toNat ((0 : Int)))).length : Int))) with hb114 | hb114
    · have H := ZJ H hb114; refine ZR S rfl hb114 ?_; refine wp_skip ?_; refine Zd (hN113 _ _ ?_); refine Zj fun _ hN116 => ?_; refine wp_block ?_; refine sr ?_; refine mv S rfl fun f S => ?_; refine mw S rfl fun f S => ?_; refine oe ?_; refine Zj fun _ hN120 => ?_; obtain ⟨y121, e122, H⟩ := Zc H; obtain ⟨y123, e124, H⟩ := Zc H; obtain ⟨y125, e126, H⟩ := Zc H; obtain ⟨y133, e134, H⟩ := Zc H; obtain ⟨y135, e136, H⟩ := Zc H; obtain ⟨y137, e138, H⟩ := Zc H; refine Zr ?_; refine mv S rfl fun f S => ?_; refine mv S rfl fun f S => ?_; refine mv S rfl fun f S => ?_; refine mv S rfl fun f S => ?_; refine mv S rfl fun f S => ?_; refine ov S rfl (Zk S rfl rfl (ZTb e122)) fun f S => ?_; refine ov S rfl (Zk S rfl rfl (Zsa e124)) fun f S => ?_; obtain ⟨_, b150, o151, c148, rfl, h149, h147⟩ := ZCa p0 (Zn e126).2.1; obtain ⟨rfl, r152⟩ := h147; refine ov S rfl (Z9 S rfl rfl ZZ (Zn e126).1 (ltI (ZB p0) (Zn e126).2.2.1)) fun f S => ?_; refine ov S rfl (Zy S rfl ZDa (S.view h149)) fun f S => ?_; refine mv S rfl fun f S => ?_; refine ov S rfl (Zk S rfl rfl (Zsc e134)) fun f S => ?_; refine ov S rfl (Zk S rfl rfl (ZDb e136)) fun f S => ?_; obtain ⟨b156, rfl⟩ := ZSb S (j := 0) rfl (ZUb hn89 (Zn e138).2.2.2); have h153 := ZMa h87 (Zn e138).2.1; obtain ⟨c154, h155⟩ : ∃ c, (List.take (Zb .u64).n (List.drop ((x90).toNat * (Zb .u64).n) c86)) = c := ⟨_, rfl⟩
      rw [h155] at h153; obtain ⟨rfl, r157⟩ := h153; refine ov S rfl (Z9 S rfl rfl ZZ (Zn e138).1 (ltI hn89 (Zn e138).2.2.1)) fun f S => ?_; obtain ⟨w, h158, S⟩ := ZLb S ZDa (off := 0 + (x90).toNat * 1) (z := .int .u64 (y135)) (cs := [.int .u64 (y135)]) (ZAb rfl) rfl (i := 0) rfl (ZJb S (j := 0) rfl (ltN hn89 (Zn e138).2.2.2)) (by first | rfl | simp [Zea]); have h159 : Rep.rels (Zb .u64) v92 (List.take (0 + (x90).toNat * 1) c86 ++ [Value.int IntKind.u64 (y135)] ++ List.drop (0 + (x90).toNat * 1 + 1) c86) (x82.set (x90).toNat y135) := ZCb h87 (Zn e138).2.2.2 (show Rep.rel (Zb .u64) v92 [.int .u64 (y135)] _ from (Zt (ZBd r152 e136))) rfl rfl; have h160 : n88 = (x82.set (x90).toNat y135).length := ZEb hn89; refine Zha wn rfl (h158 rfl rfl) ?_; refine Zq ?_; refine Zd (hN120 _ _ ?_); refine Zj fun _ hN162 => ?_; obtain ⟨y163, e164, H⟩ := Zc H; obtain ⟨y165, e166, H⟩ := Zc H; obtain ⟨y167, e168, H⟩ := Zc H; refine Zr ?_; refine mv S rfl fun f S => ?_; refine mv S rfl fun f S => ?_; refine ov S rfl (Zk S rfl rfl (ZTb e164)) fun f S => ?_; refine ov S rfl (Zk S rfl rfl (Zsa e166)) fun f S => ?_; refine ov S rfl (Zk S rfl rfl (Zsa e168)) fun f S => ?_; refine mv S rfl fun f S => ?_; refine ov S rfl (ZS S (ZB p0) rfl rfl ZZ) fun f S => ?_; refine ov S rfl (Zk S rfl rfl Zwa) fun f S => ?_; refine Zq ?_; have S := S.fr' (σ' := [(0, .slice (some ⟨b150, o151, none⟩) n2 k3), (1, .int .i64 (n)), (5, .slice (mkA (some b156)) (n88) k85), (6, .int .i64 (x90)), (19, .int .i64 ((((List.replicate (y20).toNat ((0 : Int)))).length : Int))), (20, .int .i64 (x90)), (43, .bool (decide (y167 < (((Zg 18446744073709551616 a)).length : Int))))]) rfl
      refine Zd (hN162 _ _ ?_); obtain ⟨ρ179, hc180, ho181⟩ := Zc H; refine Z4 (fun f w => ∃ (x170 : (List Int)) (b172 : Option Nat) (n176 : Nat) (k173 : Nat) (c174 : List Value) (v178 : Ze), x170 = ρ179 ∧ Ze.le v92 v178 ∧ St 65 w0 v0 [(0, .slice (some ⟨b150, o151, none⟩) n2 k3), (1, .int .i64 (n)), (5, .slice (mkA b172) (n176) k173), (19, .int .i64 ((((List.replicate (y20).toNat ((0 : Int)))).length : Int))), (20, .int .i64 (x90))] [Loc.own b172 211 1 (n176) k173 c174] v178 f w ∧ Rep.rels (Zb .u64) v178 c174 x170 ∧ n176 = x170.length) (fun _ hN183 => ?_) ?_
      · have H := hc180; rcases ZI (decide (y167 < (((Zg 18446744073709551616 a)).length : Int))) with hb187 | hb187
        · have H := ZJ H hb187; refine ZR S rfl hb187 ?_; obtain ⟨y188, e189, H⟩ := Zc H; obtain ⟨y194, e195, H⟩ := Zc H; obtain ⟨y196, e197, H⟩ := Zc H; obtain ⟨y198, e199, H⟩ := Zc H; obtain ⟨y200, e201, H⟩ := Zc H; obtain ⟨y206, e207, H⟩ := Zc H; obtain ⟨y208, e209, H⟩ := Zc H; obtain ⟨y210, e211, H⟩ := Zc H; obtain ⟨y212, e213, H⟩ := Zc H; refine Zya (fl := #[true, true, true, true, true, true, true, true, true, true, true, true, true, true, true, true, true, true, false]) Zza (by kernel_rfl) S ?_; intro ops O F w S; refine rf O F 0 rfl (by kernel_rfl) rfl S (Zv S rfl) fun f S => ?_; refine rf O F 1 rfl (by kernel_rfl) rfl S (Zv S rfl) fun f S => ?_; have h221 := ZMa h159 (Zn e189).2.1; obtain ⟨c222, h223⟩ : ∃ c, (List.take (Zb .u64).n (List.drop ((x90).toNat * (Zb .u64).n) (List.take (0 + (x90).toNat * 1) c86 ++ [Value.int IntKind.u64 (y135)] ++ List.drop (0 + (x90).toNat * 1 + 1) c86))) = c := ⟨_, rfl⟩; rw [h223] at h221; obtain ⟨rfl, r224⟩ := h221; refine rf O F 2 rfl (by kernel_rfl) rfl S (Z9 S rfl rfl ZZ (Zn e189).1 (ltI h160 (Zn e189).2.2.1)) fun f S => ?_; refine rf O F 3 rfl (by kernel_rfl) rfl S (Zy S rfl ZDa (Ztc S (j := 0) rfl h223 (ltN h160 (Zn e189).2.2.2) 0 [.int .u64 (y188)] rfl zl)) fun f S => ?_; refine rf O F 4 rfl (by kernel_rfl) rfl S (Zv S rfl) fun f S => ?_; refine rf O F 5 rfl (by kernel_rfl) rfl S (Zv S rfl) fun f S => ?_
          refine rf O F 6 rfl (by kernel_rfl) rfl S (Zv S rfl) fun f S => ?_; refine rf O F 7 rfl (by kernel_rfl) rfl S (Zk S rfl rfl (ZTb e195)) fun f S => ?_; refine rf O F 8 rfl (by kernel_rfl) rfl S (Zk S rfl rfl (Zsa e197)) fun f S => ?_; refine rf O F 9 rfl (by kernel_rfl) rfl S (Zk S rfl rfl (Zsa e199)) fun f S => ?_; obtain ⟨c226, h227, h225⟩ := Z8c p0 (Zn e201).2.1; obtain ⟨rfl, r228⟩ := h225; refine rf O F 10 rfl (by kernel_rfl) rfl S (Z9 S rfl rfl ZZ (Zn e201).1 (ltI (ZB p0) (Zn e201).2.2.1)) fun f S => ?_; refine rf O F 11 rfl (by kernel_rfl) rfl S (Zy S rfl ZDa (S.view h227)) fun f S => ?_; refine rf O F 12 rfl (by kernel_rfl) rfl S (Zv S rfl) fun f S => ?_; refine rf O F 13 rfl (by kernel_rfl) rfl S (Zk S rfl rfl (Zsc e207)) fun f S => ?_; refine rf O F 14 rfl (by kernel_rfl) rfl S (Zk S rfl rfl (ZLa e209)) fun f S => ?_; refine rf O F 15 rfl (by kernel_rfl) rfl S (Zk S rfl rfl (Zud e211)) fun f S => ?_; refine rf O F 16 rfl (by kernel_rfl) rfl S (Zk S rfl rfl Zqe) fun f S => ?_; have h229 := ZMa h159 (Zn e213).2.1; obtain ⟨c230, h231⟩ : ∃ c, (List.take (Zb .u64).n (List.drop ((x90).toNat * (Zb .u64).n) (List.take (0 + (x90).toNat * 1) c86 ++ [Value.int IntKind.u64 (y135)] ++ List.drop (0 + (x90).toNat * 1 + 1) c86))) = c := ⟨_, rfl⟩; rw [h231] at h229; obtain ⟨rfl, r232⟩ := h229; refine rf O F 17 rfl (by kernel_rfl) rfl S (Z9 S rfl rfl ZZ (Zn e213).1 (ltI h160 (Zn e213).2.2.1)) fun f S => ?_
          refine Zs O F 18 (by kernel_rfl) ?_; obtain ⟨w, h233, S⟩ := ZLb S ZDa (off := 0 + (x90).toNat * 1) (z := .int .u64 (orI .u64 y188 y210)) (cs := [.int .u64 (orI .u64 y188 y210)]) (ZAb rfl) rfl (i := 0) rfl (ZJb S (j := 0) rfl (ltN h160 (Zn e213).2.2.2)) (by first | rfl | simp [Zea]); have h234 : Rep.rels (Zb .u64) v92 (List.take (0 + (x90).toNat * 1) ((List.take (0 + (x90).toNat * 1) c86 ++ [Value.int IntKind.u64 (y135)] ++ List.drop (0 + (x90).toNat * 1 + 1) c86)) ++ [Value.int IntKind.u64 (orI .u64 y188 y210)] ++ List.drop (0 + (x90).toNat * 1 + 1) ((List.take (0 + (x90).toNat * 1) c86 ++ [Value.int IntKind.u64 (y135)] ++ List.drop (0 + (x90).toNat * 1 + 1) c86))) (((x82.set (x90).toNat y135)).set (x90).toNat (orI .u64 y188 y210)) := ZCb h159 (Zn e213).2.2.2 (show Rep.rel (Zb .u64) v92 [.int .u64 (orI .u64 y188 y210)] _ from (Zt (ZIa _ _))) rfl rfl; have h235 : n88 = (((x82.set (x90).toNat y135)).set (x90).toNat (orI .u64 y188 y210)).length := ZEb h160; refine Z6 [0, 1, 2, 3, 4, 5, 6, 7, 8, 9, 10, 11, 12, 13, 14, 15, 16, 17] [] O rfl (by kernel_rfl) wn rfl (h233 rfl rfl) ?_; refine ⟨Zl, ?_⟩; refine Zba O F (by kernel_rfl) ?_; have hz := Zi H; subst hz; have S := S.fr' (σ' := [(0, .slice (some ⟨b150, o151, none⟩) n2 k3), (1, .int .i64 (n)), (5, .slice (mkA (some b156)) (n88) k85), (19, .int .i64 ((((List.replicate (y20).toNat ((0 : Int)))).length : Int))), (20, .int .i64 (x90))]) rfl
          refine Zd (hN183 _ _ ⟨_, some b156, n88, k85, (List.take (0 + (x90).toNat * 1) ((List.take (0 + (x90).toNat * 1) c86 ++ [Value.int IntKind.u64 (y135)] ++ List.drop (0 + (x90).toNat * 1 + 1) c86)) ++ [Value.int IntKind.u64 (orI .u64 y188 y210)] ++ List.drop (0 + (x90).toNat * 1 + 1) ((List.take (0 + (x90).toNat * 1) c86 ++ [Value.int IntKind.u64 (y135)] ++ List.drop (0 + (x90).toNat * 1 + 1) c86))), _, rfl, (leR _), S, h234, h235⟩)
        have H := ZH H hb187; refine ZQ S rfl hb187 ?_; refine wp_skip ?_; have hz := Zi H; subst hz; have S := S.fr' (σ' := [(0, .slice (some ⟨b150, o151, none⟩) n2 k3), (1, .int .i64 (n)), (5, .slice (mkA (some b156)) (n88) k85), (19, .int .i64 ((((List.replicate (y20).toNat ((0 : Int)))).length : Int))), (20, .int .i64 (x90))]) rfl; refine Zd (hN183 _ _ ⟨_, some b156, n88, k85, (List.take (0 + (x90).toNat * 1) c86 ++ [Value.int IntKind.u64 (y135)] ++ List.drop (0 + (x90).toNat * 1 + 1) c86), _, rfl, (leR _), S, h159, h160⟩)
      rintro f w ⟨x170, b172, n176, k173, c174, v178, hq, hl184, S, h175, hn177⟩; subst hq; have H := ho181; have p0 := Za hl184 p0; refine ZEa ?_; refine Zd (hN116 _ _ ?_); obtain ⟨y185, e186, H⟩ := Zc H; refine Zr ?_; refine ov S rfl (Zk S rfl rfl (Zsa e186)) fun f S => ?_; refine mv S rfl fun f S => ?_; refine Zq ?_; have hz := Zi H; subst hz; have S := S.fr' (σ' := [(0, .slice (some ⟨b150, o151, none⟩) n2 k3), (1, .int .i64 (n)), (5, .slice (mkA b172) (n176) k173), (19, .int .i64 ((((List.replicate (y20).toNat ((0 : Int)))).length : Int))), (20, .int .i64 (y185))]) rfl; refine hN108 _ rfl _ _ ⟨_, _, b172, n176, k173, c174, _, rfl, (leT hl106 hl184), S, h175, hn177, (Zla e186).2⟩
    have H := ZH H hb114; refine ZQ S rfl hb114 ?_; refine wp_exit ?_; refine Zaa ?_; have hz := Zi H; subst hz; have hq := hO109 _ rfl; subst hq; have H := ho105; refine Zaa ?_; refine ZAa ?_; have hz := Zi H; subst hz; have S := S.fr' (σ' := [(5, .slice (mkA b84) (n88) k85)]) rfl; refine Zd (hN56 _ _ ⟨_, b84, n88, k85, c86, _, rfl, (leT (leR _) hl106), S, h87, hn89⟩)
  rintro f w ⟨x43, b45, n49, k46, c47, v51, hq, hl57, S, h48, hn50⟩; subst hq; have H := ho54; refine Zd (hN39 _ _ ?_); refine Zj fun _ hN59 => ?_; obtain ⟨y63, e64, H⟩ := Zc H; refine Zr ?_; refine mv S rfl fun f S => ?_; obtain ⟨v72, h73, S, h74⟩ := S.pubSlice (i := 0) (A := (Zb .u64)) (l := x43) (ℓ' := []) rfl rfl hn50 h48 rfl; refine ZK S wn rfl zl (Zp S [.slice (mkA b45) (n49) k46] Zhd rfl rfl) (Zkd S.vin (show Rep.rel (ZD (Zb .u64)) _ [.slice (mkA b45) (n49) k46] x43 from h74) e64) ?_; rintro _ v75 f w h76 ⟨c77, rfl, h78⟩ S; have h74 := Za h76 h74; obtain ⟨q79, n80, k81, rfl⟩ := Zfa h78; refine mw S rfl fun f S => ?_; refine Zq ?_; refine Zd (hN59 _ _ ?_); refine wp_ret ?_; have hz := Zi H; subst hz; exact ZL S (ZX rfl (ZP S rfl)) ⟨[.slice q79 n80 k81], rfl, h78⟩
theorem right_c {w0 : World} {v0 : Ze} (hv : VIn v0 w0) {c0 : List Value} {a : Nat} (p0 : Rep.rel ZF v0 c0 a) {c1 : List Value} {n : Int} (p1 : Rep.rel (Zb .i64) v0 c1 n) {z : Nat} (hm : ZZe a n = some z) :
    Ret Tryz.prog 179 #[ZF.val c0, (Zb .i64).val c1] w0 v0 (fun y v' => ∃ r0, y = ZF.val r0 ∧ ZF.rel v' r0 z) :=
  right_w hv p0 p1 (ZFn p1.2 hm)
theorem Z2m {w0 : World} {v0 : Ze} (hv : VIn v0 w0) {c0 : List Value} {a : Nat} (p0 : Rep.rel ZF v0 c0 a) {c1 : List Value} {b : Nat} (p1 : Rep.rel ZF v0 c1 b) {z : Nat × Nat} (H : ZWf a b = some z) : Ret Tryz.prog 146 #[ZF.val c0, ZF.val c1] w0 v0 (fun y v' => ∃ r0 r1, y = .tuple #[ZF.val r0, ZF.val r1] ∧ ZF.rel v' r0 z.1 ∧ ZF.rel v' r1 z.2) := by
  obtain ⟨q1, n2, k3, rfl⟩ := Zfa p0; obtain ⟨q4, n5, k6, rfl⟩ := Zfa p1; refine Z7 (K := 84) (args := [.slice q1 n2 k3, .slice q4 n5 k6]) hv Tryz.func146 rfl rfl zl fun f S => ?_; unfold ZWf at H; refine sr ?_; refine mw S rfl fun f S => ?_; refine mw S rfl fun f S => ?_; refine oe ?_; refine Zj fun _ hN10 => ?_; refine wp_block ?_; refine Zj fun _ hN12 => ?_; obtain ⟨y13, e14, H⟩ := Zc H; refine Zr ?_; refine mv S rfl fun f S => ?_; refine mv S rfl fun f S => ?_; refine ZK S wn rfl zl (Zp S [.slice q1 n2 k3, .slice q4 n5 k6] ZGe rfl rfl) (ZVe S.vin p0 p1 e14) ?_; rintro _ v20 f w h21 ⟨c22, rfl, h23⟩ S; have p0 := Za h21 p0; have p1 := Za h21 p1; obtain ⟨rfl, r24⟩ := h23; refine ov S rfl (Zk S rfl rfl Zwa) fun f S => ?_; refine mw S rfl fun f S => ?_; refine Zq ?_; refine Zd (hN12 _ _ ?_); rcases ZI (decide (y13 < (0 : Int))) with hb25 | hb25
  · have H := ZJ H hb25; refine ZR S rfl hb25 ?_; refine sr ?_; refine mv S rfl fun f S => ?_; refine mw S rfl fun f S => ?_; refine mw S rfl fun f S => ?_; refine oe ?_; refine wp_ret ?_; refine Zfb ?_; refine Z5 ?_; have hz := Zi H; subst hz; exact ZL S (ZPa rfl (ZP S rfl) (ZP S rfl)) ⟨[.slice none 0 0], [.slice q1 n2 k3], rfl, (Zef _), p0⟩
  have H := ZH H hb25; refine ZQ S rfl hb25 ?_; refine sr ?_; refine mv S rfl fun f S => ?_; refine ov S rfl (ZS S (ZB p1) rfl rfl ZZ) fun f S => ?_; refine ov S rfl (Zk S rfl rfl Zpa) fun f S => ?_; refine mw S rfl fun f S => ?_; refine oe ?_; rcases ZI (((((Zg 18446744073709551616 b)).length : Int)) == ((1 : Int))) with hb30 | hb30
  · have H := ZJ H hb30; refine ZR S rfl hb30 ?_; refine Zj fun _ hN32 => ?_; obtain ⟨y33, e34, H⟩ := Zc H; obtain ⟨y41, e42, H⟩ := Zc H; refine Zr ?_; refine mv S rfl fun f S => ?_; refine mv S rfl fun f S => ?_; obtain ⟨_, b56, o57, c54, rfl, h55, h53⟩ := ZCa p1 (Zn e34).2.1; obtain ⟨rfl, r58⟩ := h53; refine ov S rfl (Z9 S rfl rfl ZZ (Zn e34).1 (ltI (ZB p1) (Zn e34).2.2.1)) fun f S => ?_; refine ov S rfl (Zy S rfl ZDa (S.view h55)) fun f S => ?_; refine ZK S wn rfl zl (Zp S [.slice q1 n2 k3, .int .u64 (y33)] Zsj rfl rfl) (ZNk S.vin p0 (show Rep.rel (Zb .u64) _ [.int .u64 (y33)] y33 from (Zt r58)) e42) ?_; rintro _ v59 f w h60 ⟨c61, c62, rfl, h63, h64⟩ S; have p0 := Za h60 p0; have p1 := Za h60 p1; have h55 := Atm h60 h55; obtain ⟨q65, n66, k67, rfl⟩ := Zfa h63; obtain ⟨rfl, r68⟩ := h64; refine mv S rfl fun f S => ?_; refine ov S rfl (ZN S rfl rfl) fun f S => ?_; refine ov S rfl (ZN S rfl rfl) fun f S => ?_; refine mw S rfl fun f S => ?_; refine mw S rfl fun f S => ?_; refine Zq ?_; refine Zd (hN32 _ _ ?_); refine Zj fun _ hN70 => ?_; obtain ⟨y71, e72, H⟩ := Zc H; refine Zr ?_; refine mv S rfl fun f S => ?_; refine mv S rfl fun f S => ?_; refine ZK S wn rfl zl (Zp S [.int .u64 (y41.2)] ZVd rfl rfl) (ZZd S.vin (show Rep.rel (Zb .u64) _ [.int .u64 (y41.2)] y41.2 from (Zt r68)) e72) ?_; rintro _ v80 f w h81 ⟨c82, rfl, h83⟩ S
    have h63 := Za h81 h63; obtain ⟨q84, n85, k86, rfl⟩ := Zfa h83; refine mw S rfl fun f S => ?_; refine mw S rfl fun f S => ?_; refine Zq ?_; have S := S.fr' (σ' := [(4, .slice q65 n66 k67), (5, .slice q84 n85 k86)]) rfl; refine Zd (hN70 _ _ ?_); refine wp_ret ?_; refine Zfb ?_; refine Z5 ?_; have hz := Zi H; subst hz; exact ZL S (ZPa rfl (ZP S rfl) (ZP S rfl)) ⟨[.slice q65 n66 k67], [.slice q84 n85 k86], rfl, h63, h83⟩
  have H := ZH H hb30; refine ZQ S rfl hb30 ?_; refine wp_skip ?_; refine ZEa ?_; refine Zd (hN10 _ _ ?_); refine Zj fun _ hN88 => ?_; obtain ⟨y89, e90, H⟩ := Zc H; obtain ⟨y91, e92, H⟩ := Zc H; obtain ⟨y99, e100, H⟩ := Zc H; refine Zr ?_; refine mv S rfl fun f S => ?_; refine mv S rfl fun f S => ?_; refine ov S rfl (ZS S (ZB p1) rfl rfl ZZ) fun f S => ?_; refine ov S rfl (Zk S rfl rfl (ZLa e90)) fun f S => ?_; obtain ⟨_, b109, o110, c107, rfl, h108, h106⟩ := ZCa p1 (Zn e92).2.1; obtain ⟨rfl, r111⟩ := h106; refine ov S rfl (Z9 S rfl rfl ZZ (Zn e92).1 (ltI (ZB p1) (Zn e92).2.2.1)) fun f S => ?_; refine ov S rfl (Zy S rfl ZDa (S.view h108)) fun f S => ?_; refine ZK S wn rfl zl (Zp S [.int .u64 (y91)] Zvj rfl rfl) (Zdk S.vin (show Rep.rel (Zb .u64) _ [.int .u64 (y91)] y91 from (Zt r111)) e100) ?_; rintro _ v112 f w h113 ⟨c114, rfl, h115⟩ S; have p0 := Za h113 p0; have p1 := Za h113 p1; have h108 := Atm h113 h108; obtain ⟨rfl, r116⟩ := h115; refine mw S rfl fun f S => ?_; refine Zq ?_; refine Zd (hN88 _ _ ?_); refine Zj fun _ hN118 => ?_; obtain ⟨y119, e120, H⟩ := Zc H; refine Zr ?_; refine mv S rfl fun f S => ?_; refine mv S rfl fun f S => ?_; refine ZK S wn rfl zl (Zp S [.slice (some ⟨b109, o110, none⟩) n5 k6, .int .i64 (y99)] ZLh rfl rfl) (Z2h S.vin p1 (show Rep.rel (Zb .i64) _ [.int .i64 (y99)] y99 from (Zt r116)) e120) ?_
  rintro _ v128 f w h129 ⟨c130, rfl, h131⟩ S; have p0 := Za h129 p0; have p1 := Za h129 p1; obtain ⟨q132, n133, k134, rfl⟩ := Zfa h131; refine mw S rfl fun f S => ?_; refine Zq ?_; refine Zd (hN118 _ _ ?_); refine Zj fun _ hN136 => ?_; obtain ⟨y141, e142, H⟩ := Zc H; obtain ⟨y150, e151, H⟩ := Zc H; obtain ⟨y162, e163, H⟩ := Zc H; refine Zr ?_; obtain ⟨b168, w, h169, S⟩ := Zjb (P := Tryz.prog) (t := 30) (e := 211) S (n := 0) (cs := []) (vals := []) (sz := 1) rfl (by decide) (fun _ => by kernel_rfl); have h171 : Rep.rels (Zb .u64) v128 [] [] := Zcb; refine ZGa wn rfl zl (h169 rfl) S fun f S => ?_; refine mv S rfl fun f S => ?_; refine mv S rfl fun f S => ?_; refine ZK S wn rfl zl (Zp S [.slice q1 n2 k3, .int .i64 (y99)] ZLh rfl rfl) (Z2h S.vin p0 (show Rep.rel (Zb .i64) _ [.int .i64 (y99)] y99 from (Zt r116)) e142) ?_; rintro _ v172 f w h173 ⟨c174, rfl, h175⟩ S; have p0 := Za h173 p0; have h131 := Za h173 h131; have h171 := Zca h173 h171; obtain ⟨q176, n177, k178, rfl⟩ := Zfa h175; have hS0 := S; obtain ⟨b179, k180, c181, w, h182, S, h183⟩ := ZIi (ty := 30) (A := (Zb .u64)) Zjc S (i := 0) (n' := (([] : (List Int)) ++ ((Zg 18446744073709551616 y141))).length) rfl h175 (ZLc rfl (ZB h175)) (ZJc e151) (by decide); have h184 := ZYb h171 h183; refine ZGa wn rfl zl (ZQc hS0 rfl rfl h182) S fun f S => ?_; obtain ⟨b185, w, h186, S⟩ := Zjb S (n := 1) (cs := [.int .u64 ((0 : Int))]) (vals := [(0, .int .u64 ((0 : Int)))]) (sz := 1) rfl (by decide) (Zlc Zjc (x := .int .u64 ((0 : Int))) (cs := [.int .u64 ((0 : Int))]) rfl rfl (by decide))
  have h188 : Rep.rels (Zb .u64) v172 [.int .u64 ((0 : Int))] [(0 : Int)] := (Zbb (Zt (by decide)) Zcb); refine ZGa wn rfl zl (h186 rfl) S fun f S => ?_; have hS0 := S; obtain ⟨b189, k190, w, h191, S⟩ := ZVc (ty := 30) Zjc S (i := 1) (n' := ((([] : (List Int)) ++ ((Zg 18446744073709551616 y141))) ++ [(0 : Int)]).length) rfl (Zbc h188 rfl) (Zed S (j := 0) rfl) (Z0c h188) (ZLc rfl rfl) (ZJc e163) (by decide); have h192 := ZYb h184 h188; refine ZGa wn rfl zl (ZQc hS0 rfl rfl h191) S fun f S => ?_; refine mw S rfl fun f S => ?_; refine Zq ?_; have S := S.fr' (σ' := [(8, .int .i64 (y99)), (9, .slice q132 n133 k134), (10, .slice (mkA b189) (((([] : (List Int)) ++ ((Zg 18446744073709551616 y141))) ++ [(0 : Int)]).length) k190)]) rfl; refine Zd (hN136 _ _ ?_); refine sr ?_; refine mv S rfl fun f S => ?_; refine ov S rfl (ZS S (ZB h131) rfl rfl ZZ) fun f S => ?_; refine mw S rfl fun f S => ?_; refine oe ?_; refine Zj fun _ hN196 => ?_; obtain ⟨y197, e198, H⟩ := Zc H; obtain ⟨y199, e200, H⟩ := Zc H; refine Zr ?_; refine mv S rfl fun f S => ?_; refine ov S rfl (ZS S rfl rfl rfl ZZ) fun f S => ?_; refine mv S rfl fun f S => ?_; refine ov S rfl (Zk S rfl rfl (ZLa e198)) fun f S => ?_; obtain ⟨c213, e214⟩ : ∃ c : List Value, c = (List.replicate (y197).toNat [.int .u64 ((0 : Int))]).flatten := ⟨_, rfl⟩; obtain ⟨b208, w, h210, S⟩ := Z5b Zjc S (l := y197) (c := y197) (Zja e200).1 (Zja e200).2.1 (Zja e200).2.2.1 (Zja e200).2.2.2 e214
  have h212 : Rep.rels (Zb .u64) v172 c213 (List.replicate (y197).toNat ((0 : Int))) := by rw [e214]; exact ZOb (show Rep.rel (Zb .u64) _ [.int .u64 ((0 : Int))] _ from (Zt (by decide))) _
  refine ZGa wn rfl zl (h210 rfl rfl) S fun f S => ?_; refine mw S rfl fun f S => ?_; refine Zq ?_; refine Zd (hN196 _ _ ?_); refine Zj fun _ hN216 => ?_; refine Zj fun _ hN218 => ?_; obtain ⟨y219, e220, H⟩ := Zc H; refine Zr ?_; refine mv S rfl fun f S => ?_; refine ov S rfl (ZS S (Zyb (x := (0 : Int))) rfl rfl ZZ) fun f S => ?_; refine ov S rfl (Zk S rfl rfl (ZLa e220)) fun f S => ?_; refine mw S rfl fun f S => ?_; refine Zq ?_; refine Zd (hN218 _ _ ?_); obtain ⟨ρ239, hc240, ho241⟩ := Zc H; refine Z4 (fun f w => ∃ (x222 : (List Int)) (x230 : (List Int)) (b224 : Option Nat) (n228 : Nat) (k225 : Nat) (c226 : List Value) (b232 : Option Nat) (n236 : Nat) (k233 : Nat) (c234 : List Value) (v238 : Ze), (x222, x230) = ρ239 ∧ Ze.le v172 v238 ∧ St 84 w0 v0 [(8, .int .i64 (y99)), (10, .slice (mkA b224) (n228) k225), (12, .slice (mkA b232) (n236) k233)] [Loc.own b224 211 1 (n228) k225 c226, Loc.own b232 211 1 (n236) k233 c234] v238 f w ∧ Rep.rels (Zb .u64) v238 c226 x222 ∧ n228 = x222.length ∧ Rep.rels (Zb .u64) v238 c234 x230 ∧ n236 = x230.length) (fun _ hN243 => ?_) ?_
  · have H := hc240; refine wp_block ?_; obtain ⟨ρ344, hc345, ho346⟩ := Zc H; have S := S.fr' (σ' := [(8, .int .i64 (y99)), (9, .slice q132 n133 k134), (10, .slice (mkA b189) (((([] : (List Int)) ++ ((Zg 18446744073709551616 y141))) ++ [(0 : Int)]).length) k190), (11, .int .i64 ((((Zg 18446744073709551616 y119)).length : Int))), (12, .slice (mkA (some b208)) ((y197).toNat) (y197).toNat), (13, .int .i64 (y219))]) rfl; have S := S.reorder (ℓ' := [Loc.own b189 211 1 (((([] : (List Int)) ++ ((Zg 18446744073709551616 y141))) ++ [(0 : Int)]).length) k190 ((([] ++ c181) ++ [.int .u64 ((0 : Int))])), Loc.own (some b208) 211 1 ((y197).toNat) (y197).toNat c213]) [2, 0] rfl (by decide); refine ZHa hc345 (fun s430 f w => ∃ (x307 : (List Int)) (x315 : (List Int)) (x323 : Int) (b309 : Option Nat) (n313 : Nat) (k310 : Nat) (c311 : List Value) (b317 : Option Nat) (n321 : Nat) (k318 : Nat) (c319 : List Value) (v325 : Ze), (x307, x315, x323) = s430 ∧ Ze.le v172 v325 ∧ St 84 w0 v0 [(8, .int .i64 (y99)), (9, .slice q132 n133 k134), (10, .slice (mkA b309) (n313) k310), (11, .int .i64 ((((Zg 18446744073709551616 y119)).length : Int))), (12, .slice (mkA b317) (n321) k318), (13, .int .i64 (x323))] [Loc.own b309 211 1 (n313) k310 c311, Loc.own b317 211 1 (n321) k318 c319] v325 f w ∧ Rep.rels (Zb .u64) v325 c311 x307 ∧ n313 = x307.length ∧ Rep.rels (Zb .u64) v325 c319 x315 ∧ n321 = x315.length ∧ inR .i64 x323) ⟨_, _, _, b189, ((([] : (List Int)) ++ ((Zg 18446744073709551616 y141))) ++ [(0 : Int)]).length, k190, (([] ++ c181) ++ [.int .u64 ((0 : Int))]), some b208, (y197).toNat, (y197).toNat, c213, _, rfl, (leR _), S, h192, rfl, h212, (Zyb (x := (0 : Int))), (Zla e220).2⟩ ?_
    rintro _ f w st ⟨x307, x315, x323, b309, n313, k310, c311, b317, n321, k318, c319, v325, hq, hl347, S, h312, hn314, h320, hn322, r324⟩ H N348 hN349 hO350; subst hq; have h131 := Za hl347 h131; refine Zj fun _ hN352 => ?_; refine sr ?_; refine mv S rfl fun f S => ?_; refine ov S rfl (Zk S rfl rfl Zob) fun f S => ?_; refine oe ?_; rcases ZI (decide ((0 : Int) ≤ x323)) with hb355 | hb355
    · have H := ZJ H hb355; refine ZR S rfl hb355 ?_; refine wp_skip ?_; refine Zd (hN352 _ _ ?_); refine Zj fun _ hN357 => ?_; refine wp_block ?_; obtain ⟨y358, e359, H⟩ := Zc H; obtain ⟨y360, e361, H⟩ := Zc H; obtain ⟨y362, e363, H⟩ := Zc H; obtain ⟨y365, e366, H⟩ := Zc H; obtain ⟨y388, e389, H⟩ := Zc H; refine Zr ?_; refine mv S rfl fun f S => ?_; refine mv S rfl fun f S => ?_; refine mv S rfl fun f S => ?_; refine mv S rfl fun f S => ?_; refine mv S rfl fun f S => ?_; refine mv S rfl fun f S => ?_; refine ov S rfl (Zk S rfl rfl (Zsa e359)) fun f S => ?_; refine ov S rfl (Zk S rfl rfl (Zsa e361)) fun f S => ?_; obtain ⟨b398, rfl⟩ := ZSb S (j := 0) rfl (by have := Zvc e363; have := hn314; omega); refine ov S rfl (Z4m S (j := 0) rfl ZZ (Zvc e363).1 (Zvc e363).2.1 (by have := (Zvc e363).2.2.1; have := hn314; omega) rfl rfl rfl) fun f S => ?_; refine mv S rfl fun f S => ?_; obtain ⟨pre399, post400, h401, h402, h403, h404, h405, hb406⟩ := Zjo S (i := 0) (lo := (x323).toNat) (hi := (y360).toNat) rfl (Zvc e363).2.2.2.2.2.1 (by have := (Zvc e363).2.2.2.2.2.2; have := hn314; omega); refine ZBj S wn rfl zl (Zp S [.slice (some ⟨b398, (x323).toNat * 1, none⟩) ((y360 - x323).toNat) (k310 - (x323).toNat), .slice q132 n133 k134] k_en178 rfl rfl) (i := 0) rfl rfl (digit_c S.vin h401 h403 h402 (Zvc e363).2.2.2.2.1 ⟨ZXm (Zvc e363).1 (Zvc e363).2.1 h404, h405⟩ (Zso h312 rfl (Zvc e363).2.2.2.1) h131 e366) ?_
      rintro _ v407 f w h408 ⟨⟨c414, rfl, h415⟩, h410, c413, h409, h412, h411⟩ hSf; have h131 := Za h408 h131; have h312 := Zca h408 h312; have h320 := Zca h408 h320; have h416 : ((y360).toNat - (x323).toNat) = y365.2.length := by have := h412; have := Zvc e363; omega
      have S := hSf (Loc.own (some b398) 211 1 (n313) k310 (List.take ((x323).toNat * 1) c311 ++ c413 ++ List.drop ((y360).toNat * 1) c311)) rfl (hb406 _ c413 (Zbc h411 h416) h409) h410; have h417 := Z2l (p := (x323).toNat) (r := (y360).toNat) (sz := 1) h312 h411 rfl; have h418 := Zxl hn314 (Zvc e363).2.2.2.2.2.1 (Zvc e363).2.2.2.2.2.2 h416; obtain ⟨rfl, r419⟩ := h415; obtain ⟨b423, rfl⟩ := ZSb S (j := 1) rfl (ZUb hn322 (Zn e389).2.2.2); have h420 := ZMa h320 (Zn e389).2.1; obtain ⟨c421, h422⟩ : ∃ c, (List.take (Zb .u64).n (List.drop ((x323).toNat * (Zb .u64).n) c319)) = c := ⟨_, rfl⟩; rw [h422] at h420; obtain ⟨rfl, r424⟩ := h420; refine ov S rfl (Z9 S rfl rfl ZZ (Zn e389).1 (ltI hn322 (Zn e389).2.2.1)) fun f S => ?_; obtain ⟨w, h425, S⟩ := ZLb S ZDa (off := 0 + (x323).toNat * 1) (z := .int .u64 (y365.1)) (cs := [.int .u64 (y365.1)]) (ZAb rfl) rfl (i := 1) rfl (ZJb S (j := 1) rfl (ltN hn322 (Zn e389).2.2.2)) (by first | rfl | simp [Zea]); have h426 : Rep.rels (Zb .u64) v407 (List.take (0 + (x323).toNat * 1) c319 ++ [Value.int IntKind.u64 (y365.1)] ++ List.drop (0 + (x323).toNat * 1 + 1) c319) (x315.set (x323).toNat y365.1) := ZCb h320 (Zn e389).2.2.2 (show Rep.rel (Zb .u64) v407 [.int .u64 (y365.1)] _ from (Zt r419)) rfl rfl; have h427 : n321 = (x315.set (x323).toNat y365.1).length := ZEb hn322; refine Zha wn rfl (h425 rfl rfl) ?_; refine Zq ?_
      refine ZEa ?_; refine Zd (hN357 _ _ ?_); obtain ⟨y428, e429, H⟩ := Zc H; refine Zr ?_; refine mv S rfl fun f S => ?_; refine ov S rfl (Zk S rfl rfl (ZLa e429)) fun f S => ?_; refine mw S rfl fun f S => ?_; refine Zq ?_; have hz := Zi H; subst hz; have S := S.fr' (σ' := [(8, .int .i64 (y99)), (9, .slice q132 n133 k134), (10, .slice (mkA (some b398)) (n313) k310), (11, .int .i64 ((((Zg 18446744073709551616 y119)).length : Int))), (12, .slice (mkA (some b423)) (n321) k318), (13, .int .i64 (y428))]) rfl; refine hN349 _ rfl _ _ ⟨_, _, _, some b398, n313, k310, (List.take ((x323).toNat * 1) c311 ++ c413 ++ List.drop ((y360).toNat * 1) c311), some b423, n321, k318, (List.take (0 + (x323).toNat * 1) c319 ++ [Value.int IntKind.u64 (y365.1)] ++ List.drop (0 + (x323).toNat * 1 + 1) c319), _, rfl, (leT hl347 h408), S, h417, h418, h426, h427, (Zla e429).2⟩
    have H := ZH H hb355; refine ZQ S rfl hb355 ?_; refine wp_exit ?_; refine Zaa ?_; have hz := Zi H; subst hz; have hq := hO350 _ rfl; subst hq; have H := ho346; refine Zaa ?_; refine ZAa ?_; have hz := Zi H; subst hz; have S := S.fr' (σ' := [(8, .int .i64 (y99)), (10, .slice (mkA b309) (n313) k310), (12, .slice (mkA b317) (n321) k318)]) rfl; refine Zd (hN243 _ _ ⟨_, _, b309, n313, k310, c311, b317, n321, k318, c319, _, rfl, (leT (leR _) hl347), S, h312, hn314, h320, hn322⟩)
  rintro f w ⟨x222, x230, b224, n228, k225, c226, b232, n236, k233, c234, v238, hq, hl244, S, h227, hn229, h235, hn237⟩; subst hq; have H := ho241; refine Zd (hN216 _ _ ?_); refine Zj fun _ hN246 => ?_; obtain ⟨y250, e251, H⟩ := Zc H; obtain ⟨y262, e263, H⟩ := Zc H; obtain ⟨y271, e272, H⟩ := Zc H; refine Zr ?_; refine mv S rfl fun f S => ?_; obtain ⟨v280, h281, S, h282⟩ := S.pubSlice (i := 1) (A := (Zb .u64)) (l := x230) (ℓ' := [Loc.own b224 211 1 (n228) k225 c226]) rfl rfl hn237 h235 rfl; have h227 := Zca h281 h227; refine ZK S wn rfl zl (Zp S [.slice (mkA b232) (n236) k233] Zhd rfl rfl) (Zkd S.vin (show Rep.rel (ZD (Zb .u64)) _ [.slice (mkA b232) (n236) k233] x230 from h282) e251) ?_; rintro _ v283 f w h284 ⟨c285, rfl, h286⟩ S; have h227 := Zca h284 h227; have h282 := Za h284 h282; obtain ⟨q287, n288, k289, rfl⟩ := Zfa h286; refine mv S rfl fun f S => ?_; obtain ⟨v290, h291, S, h292⟩ := S.pubSlice (i := 0) (A := (Zb .u64)) (l := x222) (ℓ' := []) rfl rfl hn229 h227 rfl; have h282 := Za h291 h282; have h286 := Za h291 h286; refine ZK S wn rfl zl (Zp S [.slice (mkA b224) (n228) k225] Zhd rfl rfl) (Zkd S.vin (show Rep.rel (ZD (Zb .u64)) _ [.slice (mkA b224) (n228) k225] x222 from h292) e263) ?_; rintro _ v293 f w h294 ⟨c295, rfl, h296⟩ S; have h292 := Za h294 h292; have h282 := Za h294 h282; have h286 := Za h294 h286; obtain ⟨q297, n298, k299, rfl⟩ := Zfa h296
  refine mv S rfl fun f S => ?_; refine ZK S wn rfl zl (Zp S [.slice q297 n298 k299, .int .i64 (y99)] k_en179 rfl rfl) (right_c S.vin h296 (show Rep.rel (Zb .i64) _ [.int .i64 (y99)] y99 from (Zt r116)) e272) ?_; rintro _ v300 f w h301 ⟨c302, rfl, h303⟩ S; have h292 := Za h301 h292; have h282 := Za h301 h282; have h286 := Za h301 h286; have h296 := Za h301 h296; obtain ⟨q304, n305, k306, rfl⟩ := Zfa h303; refine mw S rfl fun f S => ?_; refine mw S rfl fun f S => ?_; refine Zq ?_; refine Zd (hN246 _ _ ?_); refine wp_ret ?_; have hz := Zi H; subst hz; exact ZL S (ZPa rfl (ZP S rfl) (ZP S rfl)) ⟨[.slice q287 n288 k289], [.slice q304 n305 k306], rfl, h286, h303⟩
theorem ZGh {w0 : World} {v0 : Ze} (hv : VIn v0 w0) {c0 : List Value} {a : Nat} (p0 : Rep.rel ZF v0 c0 a) {c1 : List Value} {b : Nat} (p1 : Rep.rel ZF v0 c1 b) {z : Nat × Nat} (hm : ZSc a b = some z) :
    Ret Tryz.prog 146 #[ZF.val c0, ZF.val c1] w0 v0 (fun y v' => ∃ r0 r1, y = Value.tuple #[ZF.val r0, ZF.val r1] ∧ ZF.rel v' r0 z.1 ∧ ZF.rel v' r1 z.2) :=
  Z2m hv p0 p1 (Zvo hm)
theorem small_w {w0 : World} {v0 : Ze} (hv : VIn v0 w0) {c0 : List Value} {a : Nat} (p0 : Rep.rel ZF v0 c0 a) {c1 : List Value} {b : Nat} (p1 : Rep.rel ZF v0 c1 b) {z : Int} (H : ZEf a b = some z) : Ret Tryz.prog 175 #[ZF.val c0, ZF.val c1] w0 v0 (fun y v' => ∃ r0, y = (Zb .u64).val r0 ∧ (Zb .u64).rel v' r0 z) := by
  obtain ⟨q1, n2, k3, rfl⟩ := Zfa p0; obtain ⟨q4, n5, k6, rfl⟩ := Zfa p1; refine Z7 (K := 23) (args := [.slice q1 n2 k3, .slice q4 n5 k6]) hv Tryz.func175 rfl rfl zl fun f S => ?_; unfold ZEf at H; refine sr ?_; refine mw S rfl fun f S => ?_; refine oe ?_; refine sr ?_; refine mw S rfl fun f S => ?_; refine oe ?_; refine Zj fun _ hN12 => ?_; refine sr ?_; refine mv S rfl fun f S => ?_; refine ov S rfl (ZS S (ZB p0) rfl rfl ZZ) fun f S => ?_; refine ov S rfl (Zk S rfl rfl ZNa) fun f S => ?_; refine oe ?_; obtain ⟨ρ19, hc20, ho21⟩ := Zc H; refine Z4 (fun f w => ∃ (x16 : Int) (v18 : Ze), x16 = ρ19 ∧ Ze.le v0 v18 ∧ St 23 w0 v0 [(1, .slice q4 n5 k6), (5, .int .u64 (x16))] [] v18 f w ∧ inR .u64 x16) (fun _ hN23 => ?_) ?_
  · have H := hc20; rcases ZI (decide ((0 : Int) < (((Zg 18446744073709551616 a)).length : Int))) with hb79 | hb79
    · have H := ZJ H hb79; refine ZR S rfl hb79 ?_; obtain ⟨y80, e81, H⟩ := Zc H; refine Zr ?_; refine mv S rfl fun f S => ?_; obtain ⟨_, b91, o92, c89, rfl, h90, h88⟩ := ZCa p0 (Zn e81).2.1; obtain ⟨rfl, r93⟩ := h88; refine ov S rfl (Z9 S rfl rfl ZZ (Zn e81).1 (ltI (ZB p0) (Zn e81).2.2.1)) fun f S => ?_; refine ov S rfl (Zy S rfl ZDa (S.view h90)) fun f S => ?_; refine mw S rfl fun f S => ?_; refine Zq ?_; have hz := Zi H; subst hz; have S := S.fr' (σ' := [(1, .slice q4 n5 k6), (5, .int .u64 (y80))]) rfl; refine Zd (hN23 _ _ ⟨_, _, rfl, (leR _), S, r93⟩)
    have H := ZH H hb79; refine ZQ S rfl hb79 ?_; refine wp_skip ?_; have hz := Zi H; subst hz; have S := S.fr' (σ' := [(1, .slice q4 n5 k6), (5, .int .u64 ((0 : Int)))]) rfl; refine Zd (hN23 _ _ ⟨_, _, rfl, (leR _), S, (by decide)⟩)
  rintro f w ⟨x16, v18, hq, hl24, S, r17⟩; subst hq; have H := ho21; have p1 := Za hl24 p1; refine Zd (hN12 _ _ ?_); refine Zj fun _ hN26 => ?_; obtain ⟨y27, e28, H⟩ := Zc H; refine Zr ?_; refine mv S rfl fun f S => ?_; obtain ⟨_, b38, o39, c36, rfl, h37, h35⟩ := ZCa p1 (Zn e28).2.1; obtain ⟨rfl, r40⟩ := h35; refine ov S rfl (Z9 S rfl rfl ZZ (Zn e28).1 (ltI (ZB p1) (Zn e28).2.2.1)) fun f S => ?_; refine ov S rfl (Zy S rfl ZDa (S.view h37)) fun f S => ?_; refine mw S rfl fun f S => ?_; refine Zq ?_; refine Zd (hN26 _ _ ?_); refine Zj fun _ hN42 => ?_; obtain ⟨ρ47, hc48, ho49⟩ := Zc H; refine Z4 (fun f w => ∃ (x44 : Int) (v46 : Ze), x44 = ρ47 ∧ Ze.le v18 v46 ∧ St 23 w0 v0 [(5, .int .u64 (x44))] [] v46 f w ∧ inR .u64 x44) (fun _ hN51 => ?_) ?_
  · have H := hc48; refine wp_block ?_; obtain ⟨ρ64, hc65, ho66⟩ := Zc H; have S := S.fr' (σ' := [(5, .int .u64 (x16)), (6, .int .u64 (y27))]) rfl; refine ZHa hc65 (fun s78 f w => ∃ (x55 : Int) (x57 : Int) (v59 : Ze), (x55, x57) = s78 ∧ Ze.le v18 v59 ∧ St 23 w0 v0 [(5, .int .u64 (x55)), (6, .int .u64 (x57))] [] v59 f w ∧ inR .u64 x55 ∧ inR .u64 x57) ⟨_, _, _, rfl, (leR _), S, r17, r40⟩ ?_; rintro _ f w st ⟨x55, x57, v59, hq, hl67, S, r56, r58⟩ H N68 hN69 hO70; subst hq; refine Zj fun _ hN72 => ?_; refine sr ?_; refine mv S rfl fun f S => ?_; refine ov S rfl (Zk S rfl rfl ZNa) fun f S => ?_; refine oe ?_; rcases ZI (decide ((0 : Int) < x57)) with hb75 | hb75
    · have H := ZJ H hb75; refine ZR S rfl hb75 ?_; refine wp_skip ?_; refine Zd (hN72 _ _ ?_); refine wp_block ?_; obtain ⟨y76, e77, H⟩ := Zc H; refine Zya (fl := #[true, true, true, true, false, false]) Zza (by kernel_rfl) S ?_; intro ops O F w S; refine rf O F 0 rfl (by kernel_rfl) rfl S (Zv S rfl) fun f S => ?_; refine rf O F 1 rfl (by kernel_rfl) rfl S (Zv S rfl) fun f S => ?_; refine rf O F 2 rfl (by kernel_rfl) rfl S (Zv S rfl) fun f S => ?_; refine rf O F 3 rfl (by kernel_rfl) rfl S (Zk S rfl rfl (Zsc e77)) fun f S => ?_; refine Zs O F 4 (by kernel_rfl) ?_; refine nv [0, 1] [2, 3] O rfl (by kernel_rfl) rfl S (Zqa S rfl) fun f S => ?_; refine ⟨(py S rfl rfl (Zv S rfl) (py S rfl rfl (Zk S rfl rfl (Zsc e77)) Zl)), ?_⟩; refine Zs O F 5 (by kernel_rfl) ?_; refine nv [0, 1, 2, 3, 4] [] O rfl (by kernel_rfl) rfl S (Zqa S rfl) fun f S => ?_; refine ⟨Zl, ?_⟩; refine Zba O F (by kernel_rfl) ?_; refine ZEa ?_; have hz := Zi H; subst hz; have S := S.fr' (σ' := [(5, .int .u64 (x57)), (6, .int .u64 (y76))]) rfl; refine hN69 _ rfl _ _ ⟨_, _, _, rfl, hl67, S, r58, (Zfj r56 e77)⟩
    have H := ZH H hb75; refine ZQ S rfl hb75 ?_; refine wp_exit ?_; refine Zaa ?_; have hz := Zi H; subst hz; have hq := hO70 _ rfl; subst hq; have H := ho66; refine Zaa ?_; refine ZAa ?_; have hz := Zi H; subst hz; have S := S.fr' (σ' := [(5, .int .u64 (x55))]) rfl; refine Zd (hN51 _ _ ⟨_, _, rfl, (leT (leR _) hl67), S, r56⟩)
  rintro f w ⟨x44, v46, hq, hl52, S, r45⟩; subst hq; have H := ho49; refine Zd (hN42 _ _ ?_); refine sr ?_; refine mv S rfl fun f S => ?_; refine mw S rfl fun f S => ?_; refine oe ?_; refine wp_ret ?_; have hz := Zi H; subst hz; exact ZL S (ZX rfl (ZP S rfl)) ⟨[.int .u64 (x44)], rfl, (Zt r45)⟩
theorem small_c {w0 : World} {v0 : Ze} (hv : VIn v0 w0) {c0 : List Value} {a : Nat} (p0 : Rep.rel ZF v0 c0 a) {c1 : List Value} {b : Nat} (p1 : Rep.rel ZF v0 c1 b) {z : Int} (hm : ZUe a b = some z) :
    Ret Tryz.prog 175 #[ZF.val c0, ZF.val c1] w0 v0 (fun y v' => ∃ r0, y = (Zb .u64).val r0 ∧ (Zb .u64).rel v' r0 z) :=
  small_w hv p0 p1 (ZAl hm)
end Go.Eng
