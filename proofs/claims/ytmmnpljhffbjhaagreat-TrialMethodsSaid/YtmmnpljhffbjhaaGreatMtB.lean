/- Lemmas towards the statement: the engine of the walks, the functions' models, laws and walks, part 2. Conditions: as each states. -/
import Derived.Lib.AppendStr
import Derived.Lib.Builder
import Derived.Lib.UnsafeStr
import Derived.Test.YtmmnpljhffbjhaaGreatMtA
set_option linter.all false
set_option maxRecDepth 100000
namespace Go.Eng
theorem ZHj {V' V t d c c' Q P R S x y vm B : Nat} (h : V + Q * c = P + R * x * vm) (hs : V' + Q * t = V + Q * d) (e : d + B * c' = x * y + t + c) (hQ : Q = R * S) : V' + Q * B * c' = P + R * x * (vm + S * y) := by
  have : Q * (d + B * c') = Q * (x * y + t + c) := by rw [e]
  subst hQ; grind
theorem Z7n {x y t c B1 : Nat} (hx : x ≤ 18446744073709551615) (hy : y ≤ 18446744073709551615) (ht : t ≤ 18446744073709551615) (hc : c ≤ 18446744073709551615) : x * y + t + c ≤ 340282366920938463463374607431768211455 := by
  have := Nat.mul_le_mul hx hy; omega
theorem Zsi {x y : Nat} (hx : x < 18446744073709551616) (hy : y < 18446744073709551616) : Zod (x : Int) (y : Int) = some (((x * y / 18446744073709551616 : Nat) : Int), ((x * y % 18446744073709551616 : Nat) : Int)) := by
  unfold Zod; rw [if_pos ⟨by omega, by omega, by omega, by omega⟩]; simp
theorem ZLl {n m : Nat} (hn : okN n) (hm : okN m) : Zof n m = some (n * m) := by
  unfold Zof; unfold Zoe; rw [Zh]; by_cases h1 : n = 1
  · rw [decide_eq_true h1, Z1, h1, Nat.one_mul]
  rw [decide_eq_false h1, ZY, Zh]; by_cases h2 : m = 1
  · rw [decide_eq_true h2, Z1, h2, Nat.mul_one]
  rw [decide_eq_false h2, ZY]; have hdx := Zkb (B := 18446744073709551616) (by decide) n; have hdy := Zkb (B := 18446744073709551616) (by decide) m; have hvx := Zdb (B := 18446744073709551616) (by decide) n; have hvy := Zdb (B := 18446744073709551616) (by decide) m; unfold okN at hn hm; generalize Zg 18446744073709551616 n = a at *; generalize Zg 18446744073709551616 m = b at *; rw [ZJa (by omega) (by omega), Zh]; obtain ⟨u, hu⟩ := ZGc (b := 8) (l := (a.length : Int) + b.length) (c := (a.length : Int) + b.length) (by omega) (by omega) (by omega) (by omega); rw [hu, Zh, Z0a]; have e0 : ((a.length : Int) + b.length).toNat = a.length + b.length := by omega
  rw [e0]; refine Zeb (fun s : (List Int) × Int => ∃ k : Nat, s.2 = (k : Int) ∧ k ≤ a.length ∧ s.1.length = a.length + b.length ∧ Dig 18446744073709551616 s.1 ∧
    val 18446744073709551616 s.1 = val 18446744073709551616 (a.take k) * val 18446744073709551616 b ∧ ∀ j (h : j < s.1.length), k + b.length ≤ j → s.1[j] = 0) (fun s => a.length - s.2.toNat)
    (fun r : List Int => r.length = a.length + b.length ∧ val 18446744073709551616 r = n * m) ⟨0, rfl, by omega, by simp, Dig.replicate _ (by omega), by simp [val, ZYh], by simp⟩ (ZZa (by simp; omega)) ?_ ?_
  · rintro ⟨out, i⟩ ⟨k, rfl, hk, ho, hd, hv, hz⟩; simp only at ho hd hv hz ⊢; by_cases hlt : k < a.length
    · left; have hx := hdx.get hlt; rw [decide_eq_true (by omega), Z1, Zua hlt, Zh]; obtain ⟨X, hX⟩ := Int.eq_ofNat_of_zero_le hx.1; have hX' : X < 18446744073709551616 := by omega
      obtain ⟨⟨o, c⟩, er, ho2, hd2, hc, hv2, hz2⟩ := Z5g (body := fun s : (List Int) × Int × Int => match s with
        | (x204, x212, x214) =>
        (ifb (decide (x214 < (b.length : Int)))
        (bnd (idx b x214) fun y245 =>
        bnd (Zod a[k] y245) fun y261 =>
        bnd (chk .i64 ((k : Int) + x214)) fun y281 =>
        bnd (idx x204 y281) fun y283 =>
        bnd (Zdc y261.2 y283 ((0 : Int))) fun y290 =>
        bnd (Zdc y290.1 x212 ((0 : Int))) fun y301 =>
        bnd (chk .i64 ((k : Int) + x214)) fun y303 =>
        bnd (idx x204 y303) fun y305 =>
        bnd (chk .i64 (x214 + ((1 : Int)))) fun y321 =>
        some (.inl (((x204.set (y303).toNat y301.1), IntKind.u64.wrap ((IntKind.u64.wrap (y261.1 + y290.2)) + y301.2), y321))))
        (some (.inr ((x204, x212)))))) (fun s : (List Int) × Int × Int => ∃ q : Nat, s.2.2 = (q : Int) ∧ q ≤ b.length ∧ s.1.length = a.length + b.length ∧ Dig 18446744073709551616 s.1 ∧ (0 ≤ s.2.1 ∧ s.2.1 < 18446744073709551616) ∧
          val 18446744073709551616 s.1 + 18446744073709551616 ^ (k + q) * s.2.1.toNat = val 18446744073709551616 (a.take k) * val 18446744073709551616 b + 18446744073709551616 ^ k * X * val 18446744073709551616 (b.take q) ∧ ∀ j (h : j < s.1.length), k + b.length ≤ j → s.1[j] = 0)
        (fun s => b.length - s.2.2.toNat)
        (fun r : List Int × Int => r.1.length = a.length + b.length ∧ Dig 18446744073709551616 r.1 ∧ (0 ≤ r.2 ∧ r.2 < 18446744073709551616) ∧
          val 18446744073709551616 r.1 + 18446744073709551616 ^ (k + b.length) * r.2.toNat = val 18446744073709551616 (a.take k) * val 18446744073709551616 b + 18446744073709551616 ^ k * X * val 18446744073709551616 b ∧ ∀ j (h : j < r.1.length), k + b.length ≤ j → r.1[j] = 0)
        (by
          rintro ⟨o, c, i⟩ ⟨q, rfl, hq, ho2, hd2, hc, hv2, hz2⟩; simp only at ho2 hd2 hc hv2 hz2 ⊢; by_cases hqlt : q < b.length
          · left; have hy := hdy.get hqlt; obtain ⟨Y, hY⟩ := Int.eq_ofNat_of_zero_le hy.1; have hY' : Y < 18446744073709551616 := by omega
            have hkq : k + q < o.length := by omega
            have ht := hd2.get hkq; obtain ⟨T, hT⟩ := Int.eq_ofNat_of_zero_le ht.1; obtain ⟨C, rfl⟩ := Int.eq_ofNat_of_zero_le hc.1; have eck : chk .i64 ((k : Int) + (q : Int)) = some ((k + q : Nat) : Int) := by rw [ZJa (by omega) (by omega)]; simp
            rw [decide_eq_true (by omega), Z1, Zua hqlt, Zh, hX, hY, Zsi hX' hY', Zh, eck, Zh, Zua hkq, Zh, hT]; rw [Z9f (by omega) (by omega) (by omega) (by omega), Zh, Z9f (by omega) (by omega) (by omega) (by omega), Zh, Zh, Zua hkq, Zh, ZJa (by omega) (by omega), Zh]; have hb := Z7n (x := X) (y := Y) (t := T) (c := C) (B1 := 0) (by omega) (by omega) (by omega) (by omega); have hxy : X * Y ≤ 340282366920938463426481119284349108225 := Nat.mul_le_mul (show X ≤ 18446744073709551615 by omega) (show Y ≤ 18446744073709551615 by omega); generalize hp : X * Y = p at *; have ecar : IntKind.u64.wrap (IntKind.u64.wrap (((p / 18446744073709551616 : Nat) : Int) + (((p % 18446744073709551616 : Nat) : Int) + (T : Int) + 0) / 18446744073709551616) + ((((p % 18446744073709551616 : Nat) : Int) + (T : Int) + 0) % 18446744073709551616 + (C : Int) + 0) / 18446744073709551616) =
                (((p + T + C) / 18446744073709551616 : Nat) : Int) := by
              rw [wrap_u64, wrap_u64]; omega
            have edig : ((((p % 18446744073709551616 : Nat) : Int) + (T : Int) + 0) % 18446744073709551616 + (C : Int) + 0) % 18446744073709551616 = (((p + T + C) % 18446744073709551616 : Nat) : Int) := by omega
            simp only [ecar, edig]; refine ⟨_, rfl, ⟨q + 1, by simp, by omega, by simp [ho2], hd2.set _ (by omega), by simp only; omega, ?_, ?_⟩, by simp; omega⟩
            · simp only [Int.toNat_natCast]; have hs := Zbf (B := 18446744073709551616) (l := o) (i := k + q) (x := (((p + T + C) % 18446744073709551616 : Nat) : Int)) hkq; rw [hT] at hs; simp only [Int.toNat_natCast] at hs hv2; rw [ZGb hqlt, hY]; simp only [Int.toNat_natCast]; rw [show k + (q + 1) = k + q + 1 by omega, Nat.pow_succ]; exact ZHj hv2 hs (by rw [hp]; omega) (Nat.pow_add _ _ _)
            · intro j hj hj2; simp only [Int.toNat_natCast] at hj ⊢; rw [List.getElem_set_ne (by omega)]; exact hz2 j (by simpa using hj) hj2
          · right; rw [decide_eq_false (by omega), ZY]; have hq' : q = b.length := by omega
            subst hq'; rw [List.take_length] at hv2; exact ⟨_, rfl, ho2, hd2, hc, hv2, hz2⟩) ZBa (out, (0 : Int), (0 : Int)) ⟨0, rfl, by omega, ho, hd, ⟨Int.le_refl _, by show (0 : Int) < 18446744073709551616; omega⟩, by simp [val, hv], hz⟩ (ZZa (by simp; omega))
      rw [er, Zh, Zh]; simp only at ho2 hd2 hc hv2 hz2 ⊢; have eck : chk .i64 ((k : Int) + (b.length : Int)) = some ((k + b.length : Nat) : Int) := by rw [ZJa (by omega) (by omega)]; simp
      have hkb : k + b.length < o.length := by omega
      rw [eck, Zh, Zua hkb, Zh, ZJa (by omega) (by omega), Zh]; refine ⟨_, rfl, ⟨k + 1, by simp, by omega, by simp [ho2], hd2.set _ hc, ?_, ?_⟩, by simp; omega⟩
      · have hs := Zbf (B := 18446744073709551616) (l := o) (i := k + b.length) (x := c) hkb; rw [hz2 _ hkb (by omega)] at hs; simp only [Int.toNat_natCast] at hs ⊢; rw [ZGb hlt, hX]; simp only [Int.toNat_natCast]; simp at hs; rw [hs, hv2]; grind
      · intro j hj hj2; simp only [Int.toNat_natCast] at hj ⊢; rw [List.getElem_set_ne (by omega)]; exact hz2 j (by simpa using hj) (by omega)
    · right; rw [decide_eq_false (by omega), ZY]; have hk' : k = a.length := by omega
      subst hk'; rw [List.take_length, hvx, hvy] at hv; exact ⟨_, rfl, ho, hv⟩
  · rintro out ⟨ho, hv⟩; rw [Zh]; unfold Ztb; rw [hv, Zh]
theorem Z9m {n m z : Nat} (h : Zzc n m = some z) : Zof n m = some z := by
  unfold Zzc at h; split at h
  · rename_i hh; rw [ZLl hh.1 hh.2, h]
  · cases h
theorem ZWd {n k : Nat} (h : n ≠ 0) : bl n = k + 1 ↔ 2 ^ k ≤ n ∧ n < 2 ^ (k + 1) := by
  unfold bl; rw [if_neg h, ← Nat.log2_eq_iff h]; omega
theorem Zse {n : Nat} (h : n ≠ 0) : ∃ k, bl n = k + 1 := ⟨Nat.log2 n, by unfold bl; rw [if_neg h]⟩
theorem ZUd (n : Nat) : n < 2 ^ bl n := by
  by_cases h : n = 0
  · subst h; simp [bl]
  · obtain ⟨k, hk⟩ := Zse h; rw [hk]; exact ((ZWd h).1 hk).2
theorem Zac {n k : Nat} (h : n < 2 ^ k) : bl n ≤ k := by
  by_cases h0 : n = 0
  · subst h0; simp [bl]
  · obtain ⟨q, hq⟩ := Zse h0; have := ((ZWd h0).1 hq).1; rw [hq]; have h2 : 2 ^ q < 2 ^ k := by omega
    exact (Nat.pow_lt_pow_iff_right (by omega)).1 h2
theorem ZBf {n k : Nat} (h : 2 ^ k ≤ n) : bl n = bl (n / 2 ^ k) + k := by
  have hp : 0 < 2 ^ k := Nat.pow_pos (by omega); have h0 : n / 2 ^ k ≠ 0 := by
    have := (Nat.le_div_iff_mul_le hp (x := 1) (y := n)).2 (by omega); omega
  obtain ⟨q, hq⟩ := Zse h0; have h1 := (ZWd h0).1 hq; have hn : n ≠ 0 := by omega
  rw [hq, show q + 1 + k = (q + k) + 1 by omega, ZWd hn]; constructor
  · have := Nat.mul_le_mul_right (2 ^ k) h1.1; rw [← Nat.pow_add] at this; exact Nat.le_trans this (Nat.div_mul_le_self _ _)
  · have := (Nat.div_lt_iff_lt_mul hp).1 h1.2; rw [← Nat.pow_add] at this; rw [show q + k + 1 = q + 1 + k by omega]; exact this
set_option maxRecDepth 10000 in
theorem Zum : ∀ i : Fin 256, ([0, 1, 2, 2, 3, 3, 3, 3, 4, 4, 4, 4, 4, 4, 4, 4, 5, 5, 5, 5, 5, 5, 5, 5, 5, 5, 5, 5, 5, 5, 5, 5, 6, 6, 6, 6, 6, 6, 6, 6, 6, 6, 6, 6, 6, 6, 6, 6, 6, 6, 6, 6, 6, 6, 6, 6, 6, 6, 6, 6, 6, 6, 6, 6, 7, 7, 7, 7, 7, 7, 7, 7, 7, 7, 7, 7, 7, 7, 7, 7, 7, 7, 7, 7, 7, 7, 7, 7, 7, 7, 7, 7, 7, 7, 7, 7, 7, 7, 7, 7, 7, 7, 7, 7, 7, 7, 7, 7, 7, 7, 7, 7, 7, 7, 7, 7, 7, 7, 7, 7, 7, 7, 7, 7, 7, 7, 7, 7, 8, 8, 8, 8, 8, 8, 8, 8, 8, 8, 8, 8, 8, 8, 8, 8, 8, 8, 8, 8, 8, 8, 8, 8, 8, 8, 8, 8, 8, 8, 8, 8, 8, 8, 8, 8, 8, 8, 8, 8, 8, 8, 8, 8, 8, 8, 8, 8, 8, 8, 8, 8, 8, 8, 8, 8, 8, 8, 8, 8, 8, 8, 8, 8, 8, 8, 8, 8, 8, 8, 8, 8, 8, 8, 8, 8, 8, 8, 8, 8, 8, 8, 8, 8, 8, 8, 8, 8, 8, 8, 8, 8, 8, 8, 8, 8, 8, 8, 8, 8, 8, 8, 8, 8, 8, 8, 8, 8, 8, 8, 8, 8, 8, 8, 8, 8, 8, 8, 8, 8, 8, 8, 8, 8, 8, 8, 8, 8] : List UInt8)[i.val]?.map (fun y => y.toNat) = some (bl i.val) := by decide +kernel
set_option maxRecDepth 10000 in
theorem bl_idx {n : Nat} (h : n < 256) : ∃ y, idx ([0, 1, 2, 2, 3, 3, 3, 3, 4, 4, 4, 4, 4, 4, 4, 4, 5, 5, 5, 5, 5, 5, 5, 5, 5, 5, 5, 5, 5, 5, 5, 5, 6, 6, 6, 6, 6, 6, 6, 6, 6, 6, 6, 6, 6, 6, 6, 6, 6, 6, 6, 6, 6, 6, 6, 6, 6, 6, 6, 6, 6, 6, 6, 6, 7, 7, 7, 7, 7, 7, 7, 7, 7, 7, 7, 7, 7, 7, 7, 7, 7, 7, 7, 7, 7, 7, 7, 7, 7, 7, 7, 7, 7, 7, 7, 7, 7, 7, 7, 7, 7, 7, 7, 7, 7, 7, 7, 7, 7, 7, 7, 7, 7, 7, 7, 7, 7, 7, 7, 7, 7, 7, 7, 7, 7, 7, 7, 7, 8, 8, 8, 8, 8, 8, 8, 8, 8, 8, 8, 8, 8, 8, 8, 8, 8, 8, 8, 8, 8, 8, 8, 8, 8, 8, 8, 8, 8, 8, 8, 8, 8, 8, 8, 8, 8, 8, 8, 8, 8, 8, 8, 8, 8, 8, 8, 8, 8, 8, 8, 8, 8, 8, 8, 8, 8, 8, 8, 8, 8, 8, 8, 8, 8, 8, 8, 8, 8, 8, 8, 8, 8, 8, 8, 8, 8, 8, 8, 8, 8, 8, 8, 8, 8, 8, 8, 8, 8, 8, 8, 8, 8, 8, 8, 8, 8, 8, 8, 8, 8, 8, 8, 8, 8, 8, 8, 8, 8, 8, 8, 8, 8, 8, 8, 8, 8, 8, 8, 8, 8, 8, 8, 8, 8, 8, 8, 8] : List UInt8) (n : Int) = some y ∧ y.toNat = bl n := by
  have := Zum ⟨n, h⟩; obtain ⟨y, e, h2⟩ := Option.map_eq_some_iff.1 this; exact ⟨y, by simp only [idx, Int.toNat_natCast]; rw [if_pos (by omega)]; exact e, h2⟩
set_option maxRecDepth 10000 in
theorem ZEo {n : Nat} (hn : n < 18446744073709551616) : Zkf (n : Int) = some (bl n : Int) := by
  unfold Zkf; have sh : ∀ (n k : Nat), k ≤ 64 → ZKa .u64 (n : Int) (k : Int) = some ((n / 2 ^ k : Nat) : Int) := fun n k h => by rw [ZVi (by omega) h]; simp
  have s32 : ∀ n : Nat, ZKa .u64 (n : Int) 32 = some ((n / 4294967296 : Nat) : Int) := fun n => sh n 32 (by omega); have s16 : ∀ n : Nat, ZKa .u64 (n : Int) 16 = some ((n / 65536 : Nat) : Int) := fun n => sh n 16 (by omega); have s8 : ∀ n : Nat, ZKa .u64 (n : Int) 8 = some ((n / 256 : Nat) : Int) := fun n => sh n 8 (by omega); obtain ⟨n1, k1, e1, h1, b1, l1⟩ : ∃ n1 k1 : Nat, ifb (decide ((4294967296 : Int) ≤ (n : Int))) (bnd (ZKa .u64 (n : Int) 32) fun y => some (y, (32 : Int))) (some ((n : Int), 0)) = some ((n1 : Int), (k1 : Int)) ∧ n1 < 4294967296 ∧ bl n = bl n1 + k1 ∧ k1 ≤ 32 := by
    by_cases h : 4294967296 ≤ n
    · exact ⟨n / 4294967296, 32, by rw [decide_eq_true (by omega), Z1, s32]; rfl, by omega, ZBf (k := 32) h, by omega⟩
    · exact ⟨n, 0, by rw [decide_eq_false (by omega)]; rfl, by omega, rfl, by omega⟩
  rw [e1, Zh]; simp only; obtain ⟨n2, k2, e2, h2, b2, l2⟩ : ∃ n2 k2 : Nat, ifb (decide ((65536 : Int) ≤ (n1 : Int))) (bnd (ZKa .u64 (n1 : Int) 16) fun y => bnd (chk .i64 ((k1 : Int) + 16)) fun z => some (y, z)) (some ((n1 : Int), (k1 : Int))) = some ((n2 : Int), (k2 : Int)) ∧ n2 < 65536 ∧ bl n = bl n2 + k2 ∧ k2 ≤ 48 := by
    by_cases h : 65536 ≤ n1
    · exact ⟨n1 / 65536, k1 + 16, by rw [decide_eq_true (by omega), Z1, s16, Zh, ZJa (by omega) (by omega)]; rfl, by omega, by rw [b1, ZBf (k := 16) h]; simp; omega, by omega⟩
    · exact ⟨n1, k1, by rw [decide_eq_false (by omega)]; rfl, by omega, b1, by omega⟩
  rw [e2, Zh]; simp only; obtain ⟨n3, k3, e3, h3, b3, l3⟩ : ∃ n3 k3 : Nat, ifb (decide ((256 : Int) ≤ (n2 : Int))) (bnd (ZKa .u64 (n2 : Int) 8) fun y => bnd (chk .i64 ((k2 : Int) + 8)) fun z => some (y, z)) (some ((n2 : Int), (k2 : Int))) = some ((n3 : Int), (k3 : Int)) ∧ n3 < 256 ∧ bl n = bl n3 + k3 ∧ k3 ≤ 56 := by
    by_cases h : 256 ≤ n2
    · exact ⟨n2 / 256, k2 + 8, by rw [decide_eq_true (by omega), Z1, s8, Zh, ZJa (by omega) (by omega)]; rfl, by omega, by rw [b2, ZBf (k := 8) h]; simp; omega, by omega⟩
    · exact ⟨n2, k2, by rw [decide_eq_false (by omega)]; rfl, by omega, b2, by omega⟩
  rw [e3, Zh]; simp only; have hw : IntKind.u8.wrap (n3 : Int) = (n3 : Int) := by
    simp [IntKind.wrap, IntKind.signed, IntKind.bits]; omega
  rw [hw]; obtain ⟨y, ey, hy⟩ := bl_idx h3; have hb : bl n3 ≤ 8 := Zac h3; rw [ey, Zh, ZWe (ZPb.2 ⟨by omega, by omega⟩), ZJa (by omega) (by omega), Zh, b3, hy]; congr 1; omega
theorem Zem {x z : Int} (h : Z8f x = some z) : Zkf x = some z := by
  unfold Z8f at h; split at h
  · rename_i hh; obtain ⟨n, rfl⟩ := Int.eq_ofNat_of_zero_le hh.1; rw [ZEo (by omega), ← h]; simp
  · cases h
noncomputable def ZYg (x : Int) : Option (Int) :=
 bnd (Z8f x) fun y6 =>
 bnd (chk .i64 (((64 : Int)) - y6)) fun y13 =>
 some y13
theorem ZEl {x z : Int} (h : Zxd x = some z) : ZYg x = some z := by
  unfold Zxd at h; split at h
  · rename_i hh; have hb : bl x.toNat ≤ 64 := Zac (by omega); unfold ZYg Z8f; rw [if_pos hh, Zh, ZJa (by omega) (by omega), Zh, h]
  · cases h
noncomputable def ZKf (hi : Int) (lo : Int) (y : Int) : Option (Int × Int) :=
 ifb (y == ((0 : Int)))
  (none)
 (ifb (decide (y ≤ hi))
  (none)
 (ifb (hi == ((0 : Int)))
 (bnd (quo .u64 lo y) fun y23 =>
 bnd (rem .u64 lo y) fun y25 =>
 some ((y23, y25)))
 (bnd (Zxd y) fun y29 =>
 bnd (ZQb .u64 y (IntKind.u64.wrap y29)) fun y43 =>
 bnd (ZKa .u64 y43 ((32 : Int))) fun y47 =>
 bnd (ZQb .u64 hi (IntKind.u64.wrap y29)) fun y53 =>
 bnd (ZKa .u64 lo (IntKind.u64.wrap (((64 : Int)) - (IntKind.u64.wrap y29)))) fun y55 =>
 bnd (ZQb .u64 lo (IntKind.u64.wrap y29)) fun y59 =>
 bnd (ZKa .u64 y59 ((32 : Int))) fun y63 =>
 bnd (quo .u64 (orI .u64 y53 y55) y47) fun y69 =>
 bnd (bnd (Zna (fun s : Int × Int => match s with
 | (x148, x150) =>
 (bnd (ifb (decide ((4294967296 : Int) ≤ x148))
 (some true)
 (some (decide (IntKind.u64.wrap ((IntKind.u64.wrap (((4294967296 : Int)) * x150)) + y63) < IntKind.u64.wrap (x148 * (Zma .u64 y43 ((4294967295 : Int))))))))
 (fun (x169 : Bool) =>
 (ifb (x169)
 (ifb (decide ((4294967296 : Int) ≤ IntKind.u64.wrap (x150 + y47)))
 (some (.inr (IntKind.u64.wrap (x148 - ((1 : Int))))))
 (some (.inl ((IntKind.u64.wrap (x148 - ((1 : Int))), IntKind.u64.wrap (x150 + y47))))))
 (some (.inr x148)))))) ZBa ((y69, IntKind.u64.wrap ((orI .u64 y53 y55) - (IntKind.u64.wrap (y69 * y47))))))
 (fun (x154 : Int) =>
 (some x154)))
 (fun (x76 : Int) =>
 (bnd (quo .u64 (IntKind.u64.wrap ((IntKind.u64.wrap ((IntKind.u64.wrap ((orI .u64 y53 y55) * ((4294967296 : Int)))) + y63)) - (IntKind.u64.wrap (x76 * y43)))) y47) fun y89 =>
 bnd (bnd (Zna (fun s : Int × Int => match s with
 | (x109, x111) =>
 (bnd (ifb (decide ((4294967296 : Int) ≤ x111))
 (some true)
 (some (decide (IntKind.u64.wrap ((IntKind.u64.wrap (((4294967296 : Int)) * x109)) + (Zma .u64 y59 ((4294967295 : Int)))) < IntKind.u64.wrap (x111 * (Zma .u64 y43 ((4294967295 : Int))))))))
 (fun (x130 : Bool) =>
 (ifb (x130)
 (ifb (decide ((4294967296 : Int) ≤ IntKind.u64.wrap (x109 + y47)))
 (some (.inr (IntKind.u64.wrap (x111 - ((1 : Int))))))
 (some (.inl ((IntKind.u64.wrap (x109 + y47), IntKind.u64.wrap (x111 - ((1 : Int))))))))
 (some (.inr x111)))))) ZBa ((IntKind.u64.wrap ((IntKind.u64.wrap ((IntKind.u64.wrap ((IntKind.u64.wrap ((orI .u64 y53 y55) * ((4294967296 : Int)))) + y63)) - (IntKind.u64.wrap (x76 * y43)))) - (IntKind.u64.wrap (y89 * y47))), y89)))
 (fun (x115 : Int) =>
 (some x115)))
 (fun (x96 : Int) =>
 (bnd (ZKa .u64 (IntKind.u64.wrap ((IntKind.u64.wrap ((IntKind.u64.wrap ((IntKind.u64.wrap ((IntKind.u64.wrap ((IntKind.u64.wrap ((orI .u64 y53 y55) * ((4294967296 : Int)))) + y63)) - (IntKind.u64.wrap (x76 * y43)))) * ((4294967296 : Int)))) + (Zma .u64 y59 ((4294967295 : Int))))) - (IntKind.u64.wrap (x96 * y43)))) (IntKind.u64.wrap y29)) fun y107 =>
 some ((IntKind.u64.wrap ((IntKind.u64.wrap (x76 * ((4294967296 : Int)))) + x96), y107)))))))))
theorem ZKd {x k : Nat} (hk : k ≤ 64) : ZQb .u64 (x : Int) (k : Int) = some ((x * 2 ^ k % 18446744073709551616 : Nat) : Int) := by
  unfold ZQb; rw [if_neg (by omega)]; have : min ((k : Int).toNat) IntKind.u64.bits = k := by simp [IntKind.bits]; omega
  rw [this, wrap_u64]; simp
theorem Zmd {x k : Nat} (hk : k ≤ 64) : ZKa .u64 (x : Int) (k : Int) = some ((x / 2 ^ k : Nat) : Int) := by
  rw [ZVi (by omega) hk]; simp
theorem Zme {a c k : Nat} (hc : c < 2 ^ k) (ha : a * 2 ^ k + c < 18446744073709551616) : orI .u64 ((a * 2 ^ k : Nat) : Int) (c : Int) = ((a * 2 ^ k + c : Nat) : Int) := by
  unfold orI; have h1 : (BitVec.ofInt IntKind.u64.bits ((a * 2 ^ k : Nat) : Int) ||| BitVec.ofInt IntKind.u64.bits (c : Int)).toNat = a * 2 ^ k + c := by
    rw [BitVec.toNat_or]; have e1 : (BitVec.ofInt IntKind.u64.bits ((a * 2 ^ k : Nat) : Int)).toNat = a * 2 ^ k := by
      show (BitVec.ofInt 64 ((a * 2 ^ k : Nat) : Int)).toNat = a * 2 ^ k; rw [BitVec.toNat_ofInt]; generalize a * 2 ^ k = z at *; simp; omega
    have e2 : (BitVec.ofInt IntKind.u64.bits (c : Int)).toNat = c := by
      show (BitVec.ofInt 64 (c : Int)).toNat = c; rw [BitVec.toNat_ofInt]; generalize a * 2 ^ k = z at *; simp; omega
    rw [e1, e2, Nat.mul_comm a, ← Nat.two_pow_add_eq_or_of_lt hc]
  rw [h1, wrap_u64]; generalize a * 2 ^ k + c = z at *; omega
theorem ZBk {u d q r y1 y0 Y : Nat} (hY : Y = y1 * 4294967296 + y0) (hu : u = q * y1 + r) (h : q * y0 ≤ 4294967296 * r + d) : q * Y ≤ u * 4294967296 + d := by
  subst hY hu; grind
theorem Z3n {u d q r y1 y0 Y : Nat} (hY : Y = y1 * 4294967296 + y0) (hu : u = q * y1 + r) (h : 4294967296 * r + d < q * y0) : u * 4294967296 + d < q * Y := by
  subst hY hu; grind
theorem Z3l {u d y1 y0 Y q : Nat} (hY : Y = y1 * 4294967296 + y0) (hy : 2147483648 ≤ y1) (hy0 : y0 < 4294967296) (huY : u < Y) (hq : q * y1 ≤ u) : q ≤ 4294967297 := by
  rcases Nat.lt_or_ge 4294967297 q with h | h
  · have h1 : 4294967298 * y1 ≤ q * y1 := Nat.mul_le_mul_right _ h; omega
  · exact h
theorem ZLe {n : Nat} (h : n < 18446744073709551616) : IntKind.u64.wrap (n : Int) = (n : Int) := by rw [wrap_u64]; omega
structure Half (u d y1 y0 Y : Nat) : Prop where
  eY : Y = y1 * 4294967296 + y0
  h1 : 2147483648 ≤ y1
  h1' : y1 < 4294967296
  h0 : y0 < 4294967296
  hd : d < 4294967296
  hu : u < Y
theorem ZUk {u d y1 y0 Y q r : Nat} (H : Half u d y1 y0 Y) (e : u = q * y1 + r) (hr : r < 4294967296) (hQ : (u * 4294967296 + d) / Y ≤ q) :
    (q < 4294967296 ∧ q * y0 ≤ 4294967296 * r + d ∧ q = (u * 4294967296 + d) / Y) ∨
    ((4294967296 ≤ q ∨ q < 4294967296 ∧ 4294967296 * r + d < q * y0) ∧ 0 < q ∧ (u * 4294967296 + d) / Y ≤ q - 1 ∧ u = (q - 1) * y1 + (r + y1) ∧ (4294967296 ≤ r + y1 → q - 1 = (u * 4294967296 + d) / Y)) := by
  obtain ⟨eY, h1, h1', h0, hd, hu⟩ := H; have hY : 0 < Y := by omega
  have hQ1 : ∀ q, q * Y ≤ u * 4294967296 + d → q ≤ (u * 4294967296 + d) / Y := fun q h => (Nat.le_div_iff_mul_le hY).2 h; have hQ2 : ∀ q, u * 4294967296 + d < q * Y → (u * 4294967296 + d) / Y < q := fun q h => (Nat.div_lt_iff_lt_mul hY).2 h; have hQb : (u * 4294967296 + d) / Y < 4294967296 := by
    apply hQ2; have : (u + 1) * 4294967296 ≤ Y * 4294967296 := Nat.mul_le_mul_right _ hu; rw [Nat.mul_comm 4294967296 Y]; omega
  generalize (u * 4294967296 + d) / Y = Q at *; by_cases hc : q < 4294967296 ∧ q * y0 ≤ 4294967296 * r + d
  · left; refine ⟨hc.1, hc.2, ?_⟩; have := hQ1 q (ZBk eY e hc.2); omega
  · right; have hlt : Q < q := by
      by_cases hq : q < 4294967296
      · exact hQ2 q (Z3n eY e (by omega))
      · omega
    have hq1 : q * y1 ≤ u := by omega
    have hqb := Z3l (d := d) eY h1 h0 hu hq1; have e2 : u = (q - 1) * y1 + (r + y1) := by
      obtain ⟨p, rfl⟩ : ∃ p, q = p + 1 := ⟨q - 1, by omega⟩; rw [e, Nat.succ_mul]; simp; omega
    refine ⟨by omega, by omega, by omega, e2, fun h => ?_⟩; have h3 : (q - 1) * y0 ≤ 4294967296 * 4294967295 := Nat.mul_le_mul (by omega) (by omega); have := hQ1 _ (ZBk (d := d) eY e2 (by omega)); omega
theorem Zxk {u d q Y : Nat} (hq : q = (u * 4294967296 + d) / Y) (hY : Y < 18446744073709551616) (hY0 : 0 < Y) :
    IntKind.u64.wrap (IntKind.u64.wrap (IntKind.u64.wrap ((u : Int) * 4294967296) + (d : Int)) - IntKind.u64.wrap ((q : Int) * (Y : Int))) = (((u * 4294967296 + d) % Y : Nat) : Int) := by
  have h1 := Nat.div_add_mod (u * 4294967296 + d) Y; have h2 := Nat.mod_lt (u * 4294967296 + d) hY0; rw [← hq, Nat.mul_comm] at h1; rw [← Int.natCast_mul q Y]; generalize q * Y = p at *; generalize (u * 4294967296 + d) % Y = m at *; simp only [wrap_u64]; omega
theorem ZHe {p q : Nat} (hq : 0 < q) (hp : p < 18446744073709551616) : quo .u64 (p : Int) (q : Int) = some ((p / q : Nat) : Int) := by
  unfold quo; rw [if_neg (by omega)]; have e : (p : Int).tdiv (q : Int) = ((p / q : Nat) : Int) := by simp [Int.tdiv_eq_ediv_of_nonneg]
  have h : p / q ≤ p := Nat.div_le_self _ _; generalize p / q = r at *; rw [e, ZKj (Zrd.2 ⟨by omega, by omega⟩)]
theorem Zce {k : IntKind} {p q : Nat} (hq : 0 < q) : rem k (p : Int) (q : Int) = some ((p % q : Nat) : Int) := by
  unfold rem; rw [if_neg (by omega)]; simp [Int.tmod_eq_emod_of_nonneg]
theorem Zul {H L y s Y : Nat} (hH : H < y) (hL : L < 18446744073709551616) (hs : s ≤ 63) (hY : Y = y * 2 ^ s) (hY' : Y < 18446744073709551616) :
    H * 2 ^ s % 18446744073709551616 = H * 2 ^ s ∧ L / 2 ^ (64 - s) < 2 ^ s ∧ H * 2 ^ s + L / 2 ^ (64 - s) < Y ∧ (H * 2 ^ s + L / 2 ^ (64 - s)) * 18446744073709551616 + L * 2 ^ s % 18446744073709551616 = (H * 18446744073709551616 + L) * 2 ^ s := by
  have e64 : 2 ^ (64 - s) * 2 ^ s = 18446744073709551616 := by rw [← Nat.pow_add, show 64 - s + s = 64 by omega]
  have hp : 0 < 2 ^ s := Nat.pow_pos (by omega); have hp2 : 0 < 2 ^ (64 - s) := Nat.pow_pos (by omega); have h1 : (H + 1) * 2 ^ s ≤ Y := by rw [hY]; exact Nat.mul_le_mul_right _ hH
  rw [Nat.add_mul, Nat.one_mul] at h1; have h2 : L / 2 ^ (64 - s) < 2 ^ s := by rw [Nat.div_lt_iff_lt_mul hp2, Nat.mul_comm, e64]; exact hL
  have h3 : L * 2 ^ s / 18446744073709551616 = L / 2 ^ (64 - s) := by
    rw [← e64, Nat.mul_div_mul_right _ _ hp]
  have h4 := Nat.div_add_mod (L * 2 ^ s) 18446744073709551616; rw [h3] at h4; refine ⟨Nat.mod_eq_of_lt (by omega), h2, by omega, ?_⟩; rw [Nat.add_mul (H * 18446744073709551616), Nat.mul_right_comm H]; omega
theorem Zek {q r y0 d Y : Nat} (y1 : Nat) (hY : Y % 4294967296 = y0) (hY' : Y < 18446744073709551616) (hr : r < 4294967296) (hd : d < 4294967296) :
    ifb (decide ((4294967296 : Int) ≤ (q : Int))) (some true) (some (decide (IntKind.u64.wrap ((IntKind.u64.wrap (((4294967296 : Int)) * (r : Int))) + (d : Int)) < IntKind.u64.wrap ((q : Int) * (Zma .u64 (Y : Int) ((4294967295 : Int))))))) =
    some (decide (4294967296 ≤ q ∨ q < 4294967296 ∧ 4294967296 * r + d < q * y0)) := by
  by_cases h : 4294967296 ≤ q
  · rw [decide_eq_true (by omega), Z1, decide_eq_true (.inl h)]
  · rw [decide_eq_false (by omega), ZY]; have h1 : q * y0 ≤ 4294967295 * 4294967295 := Nat.mul_le_mul (by omega) (by omega); have e1 : ((4294967296 : Int)) * (r : Int) = ((4294967296 * r : Nat) : Int) := by simp
    rw [Zze _ hY', hY, ← Int.natCast_mul q y0, ZLe (by omega), e1, ZLe (by omega), ← Int.natCast_add, ZLe (by omega)]; congr 1; apply decide_eq_decide.2; omega
theorem Z6m {H L y : Nat} (hL : L < 18446744073709551616) (hH : H < y) (hy : y < 18446744073709551616) :
    ZKf (H : Int) (L : Int) (y : Int) = some ((((H * 18446744073709551616 + L) / y : Nat) : Int), (((H * 18446744073709551616 + L) % y : Nat) : Int)) := by
  unfold ZKf; have e1 : ((y : Int) == 0) = false := by simp; omega
  rw [e1, ZY, decide_eq_false (by omega), ZY]; by_cases hH0 : H = 0
  · subst hH0; rw [show (((0 : Nat) : Int) == 0) = true from rfl, Z1, ZHe (by omega) hL, Zh, Zce (by omega), Zh]; simp
  have e2 : ((H : Int) == 0) = false := by simp; omega
  have hy0 : y ≠ 0 := by omega
  obtain ⟨k, hk⟩ := Zse hy0; have hbl : bl y ≤ 64 := Zac (by omega); obtain ⟨hy1, hy2⟩ := (ZWd hy0).1 hk; have hz : Zxd (y : Int) = some ((64 - bl y : Nat) : Int) := by
    unfold Zxd; rw [if_pos ⟨by omega, by omega⟩]; congr 1; simp; omega
  rw [e2, ZY, hz, Zh]; obtain ⟨s, hs⟩ : ∃ s, s = 64 - bl y := ⟨_, rfl⟩; rw [← hs, ZLe (n := s) (by omega)]; have e64s : IntKind.u64.wrap (((64 : Int)) - (s : Int)) = ((64 - s : Nat) : Int) := by rw [wrap_u64]; omega
  rw [e64s]; have eY : y * 2 ^ s < 18446744073709551616 := by
    have := Nat.mul_lt_mul_of_pos_right hy2 (Nat.pow_pos (n := s) (show 0 < 2 by omega)); rw [← Nat.pow_add, show k + 1 + s = 64 by omega] at this; exact this
  have eY2 : 9223372036854775808 ≤ y * 2 ^ s := by
    have := Nat.mul_le_mul_right (2 ^ s) hy1; rw [← Nat.pow_add, show k + s = 63 by omega] at this; exact this
  obtain ⟨p1, p2, p3, p4⟩ := Zul (s := s) hH hL (by omega) rfl eY; rw [ZKd (by omega), Zh, Nat.mod_eq_of_lt eY]; have sh32 : ∀ n : Nat, ZKa .u64 (n : Int) 32 = some ((n / 4294967296 : Nat) : Int) := fun n => Zmd (x := n) (k := 32) (by omega); rw [sh32, Zh, ZKd (by omega), Zh, p1, Zmd (by omega), Zh, ZKd (by omega), Zh, sh32, Zh, Zme p2 (by omega)]; obtain ⟨Y, hY⟩ : ∃ Y, Y = y * 2 ^ s := ⟨_, rfl⟩; obtain ⟨u, hu⟩ : ∃ u, u = H * 2 ^ s + L / 2 ^ (64 - s) := ⟨_, rfl⟩; obtain ⟨t, ht⟩ : ∃ t, t = L * 2 ^ s % 18446744073709551616 := ⟨_, rfl⟩; have ht' : t < 18446744073709551616 := by rw [ht]; exact Nat.mod_lt _ (by omega)
  rw [← hY] at eY eY2 p3 ⊢; rw [← hu] at p3 p4 ⊢; rw [← ht] at p4 ⊢; have H1 : Half u (t / 4294967296) (Y / 4294967296) (Y % 4294967296) Y := ⟨by omega, by omega, by omega, by omega, by omega, p3⟩; have hY0 : 0 < Y := by omega
  have hy10 : 0 < Y / 4294967296 := by omega
  rw [ZHe (by omega) (by omega), Zh, Z0a]; have eU : ∀ u : Nat, u < Y → IntKind.u64.wrap ((u : Int) - IntKind.u64.wrap (((u / (Y / 4294967296) : Nat) : Int) * ((Y / 4294967296 : Nat) : Int))) = ((u % (Y / 4294967296) : Nat) : Int) := by
    intro u hu; have h1 := Nat.div_add_mod u (Y / 4294967296); rw [Nat.mul_comm] at h1; rw [← Int.natCast_mul]; generalize u / (Y / 4294967296) * (Y / 4294967296) = g at *; generalize u % (Y / 4294967296) = m at *; rw [ZLe (n := g) (by omega), wrap_u64]; omega
  have eDiv : ∀ u d : Nat, u < Y → d < 4294967296 → (u * 4294967296 + d) / Y ≤ u / (Y / 4294967296) := by
    intro u d hu hd; have h1 := Nat.div_add_mod Y 4294967296; apply (Nat.le_div_iff_mul_le hy10).2; have h2 := Nat.div_mul_le_self (u * 4294967296 + d) Y; generalize (u * 4294967296 + d) / Y = Q at *; have h3 : Q * (Y / 4294967296 * 4294967296) ≤ Q * Y := Nat.mul_le_mul_left _ (by omega); rw [← Nat.mul_assoc] at h3; generalize Q * (Y / 4294967296) = g at *; omega
  have eW : ∀ q : Nat, 0 < q → q < 18446744073709551616 → IntKind.u64.wrap ((q : Int) - 1) = ((q - 1 : Nat) : Int) := by
    intro q h1 h2; rw [wrap_u64]; omega
  have eR : ∀ r : Nat, r < 4294967296 → IntKind.u64.wrap ((r : Int) + ((Y / 4294967296 : Nat) : Int)) = ((r + Y / 4294967296 : Nat) : Int) := by
    intro r h1; rw [← Int.natCast_add, ZLe (by omega)]
  rw [eU u p3]; refine Zeb (fun s : Int × Int => ∃ q r : Nat, s = ((q : Int), (r : Int)) ∧ u = q * (Y / 4294967296) + r ∧ r < 4294967296 ∧ (u * 4294967296 + t / 4294967296) / Y ≤ q ∧ q < 18446744073709551616) (fun s => s.1.toNat)
    (fun r : Int => r = (((u * 4294967296 + t / 4294967296) / Y : Nat) : Int))
    ⟨u / (Y / 4294967296), u % (Y / 4294967296), rfl, by rw [Nat.mul_comm]; exact (Nat.div_add_mod _ _).symm, Nat.lt_trans (Nat.mod_lt _ hy10) (by omega), eDiv u _ p3 (by omega), Nat.lt_of_le_of_lt (Nat.div_le_self _ _) (by omega)⟩
    (ZZa (by simp only [Int.toNat_natCast]; exact Nat.lt_of_le_of_lt (Nat.div_le_self _ _) (by omega))) ?_ ?_
  · rintro _ ⟨q, r, rfl, e, hr, hQ, hq64⟩; simp only; rw [Zek (y0 := Y % 4294967296) 0 rfl eY hr (by omega), Zh]; rcases ZUk H1 e hr hQ with ⟨h1, h2, h3⟩ | ⟨h1, h2, h3, h4, h5⟩
    · right; rw [decide_eq_false (by omega), ZY]; exact ⟨_, rfl, by rw [h3]⟩
    · rw [decide_eq_true h1, Z1, eR r hr, eW q h2 hq64]; by_cases hb : 4294967296 ≤ r + Y / 4294967296
      · right; rw [decide_eq_true (by omega), Z1]; exact ⟨_, rfl, by rw [h5 hb]⟩
      · left; rw [decide_eq_false (by omega), ZY]; exact ⟨_, rfl, ⟨q - 1, r + Y / 4294967296, rfl, h4, by omega, h3, by omega⟩, by simp; omega⟩
  rintro _ rfl; rw [Zh]; obtain ⟨Q1, hQ1⟩ : ∃ Q, Q = (u * 4294967296 + t / 4294967296) / Y := ⟨_, rfl⟩; have hQ1b : Q1 < 4294967296 := by
    rw [hQ1, Nat.div_lt_iff_lt_mul hY0]; have : (u + 1) * 4294967296 ≤ Y * 4294967296 := Nat.mul_le_mul_right _ p3; rw [Nat.mul_comm 4294967296 Y]; omega
  have er1 := Zxk hQ1 eY hY0; rw [← hQ1]; have ecm : ∀ z : Int, z * ((4294967296 : Int)) = z * 4294967296 := fun _ => rfl; rw [er1]; obtain ⟨v, hv⟩ : ∃ v, v = (u * 4294967296 + t / 4294967296) % Y := ⟨_, rfl⟩; have hvY : v < Y := by rw [hv]; exact Nat.mod_lt _ hY0
  rw [← hv]; have H2 : Half v (t % 4294967296) (Y / 4294967296) (Y % 4294967296) Y := ⟨by omega, by omega, by omega, by omega, by omega, hvY⟩; rw [ZHe (by omega) (by omega), Zh, Z0a, eU v hvY, Zze t ht']; refine Zeb (fun s : Int × Int => ∃ q r : Nat, s = ((r : Int), (q : Int)) ∧ v = q * (Y / 4294967296) + r ∧ r < 4294967296 ∧ (v * 4294967296 + t % 4294967296) / Y ≤ q ∧ q < 18446744073709551616) (fun s => s.2.toNat)
    (fun r : Int => r = (((v * 4294967296 + t % 4294967296) / Y : Nat) : Int))
    ⟨v / (Y / 4294967296), v % (Y / 4294967296), rfl, by rw [Nat.mul_comm]; exact (Nat.div_add_mod _ _).symm, Nat.lt_trans (Nat.mod_lt _ hy10) (by omega), eDiv v _ hvY (by omega), Nat.lt_of_le_of_lt (Nat.div_le_self _ _) (by omega)⟩
    (ZZa (by simp only [Int.toNat_natCast]; exact Nat.lt_of_le_of_lt (Nat.div_le_self _ _) (by omega))) ?_ ?_
  · rintro _ ⟨q, r, rfl, e, hr, hQ, hq64⟩; simp only; rw [Zek (y0 := Y % 4294967296) 0 rfl eY hr (by omega), Zh]; rcases ZUk H2 e hr hQ with ⟨h1, h2, h3⟩ | ⟨h1, h2, h3, h4, h5⟩
    · right; rw [decide_eq_false (by omega), ZY]; exact ⟨_, rfl, by rw [h3]⟩
    · rw [decide_eq_true h1, Z1, eR r hr, eW q h2 hq64]; by_cases hb : 4294967296 ≤ r + Y / 4294967296
      · right; rw [decide_eq_true (by omega), Z1]; exact ⟨_, rfl, by rw [h5 hb]⟩
      · left; rw [decide_eq_false (by omega), ZY]; exact ⟨_, rfl, ⟨q - 1, r + Y / 4294967296, rfl, h4, by omega, h3, by omega⟩, by simp; omega⟩
  rintro _ rfl; rw [Zh]; obtain ⟨Q0, hQ0⟩ : ∃ Q, Q = (v * 4294967296 + t % 4294967296) / Y := ⟨_, rfl⟩; have hQ0b : Q0 < 4294967296 := by
    rw [hQ0, Nat.div_lt_iff_lt_mul hY0]; have : (v + 1) * 4294967296 ≤ Y * 4294967296 := Nat.mul_le_mul_right _ hvY; rw [Nat.mul_comm 4294967296 Y]; omega
  have er2 := Zxk hQ0 eY hY0; rw [← hQ0, er2, Zmd (by omega), Zh]; have hd1 := Nat.div_add_mod (u * 4294967296 + t / 4294967296) Y; have hd2 := Nat.div_add_mod (v * 4294967296 + t % 4294967296) Y; have hm2 := Nat.mod_lt (v * 4294967296 + t % 4294967296) hY0; rw [← hQ1, ← hv] at hd1; rw [← hQ0] at hd2; obtain ⟨w, hw⟩ : ∃ w, w = (v * 4294967296 + t % 4294967296) % Y := ⟨_, rfl⟩; rw [← hw] at hd2 hm2 ⊢; have hN : (H * 18446744073709551616 + L) * 2 ^ s = Y * (Q1 * 4294967296 + Q0) + w := by
    rw [← p4, Nat.mul_add, ← Nat.mul_assoc]; generalize Y * Q1 = g at *; generalize Y * Q0 = g' at *; omega
  have hp : 0 < 2 ^ s := Nat.pow_pos (by omega); have hMy : (H * 18446744073709551616 + L) / y = Q1 * 4294967296 + Q0 := by
    have h1 := Nat.mul_div_mul_right (H * 18446744073709551616 + L) y hp; rw [← hY, hN, Nat.mul_add_div hY0, Nat.div_eq_of_lt hm2, Nat.add_zero] at h1; exact h1.symm
  have hMm : (H * 18446744073709551616 + L) % y * 2 ^ s = w := by
    have h1 := Nat.mul_mod_mul_right (2 ^ s) (H * 18446744073709551616 + L) y; rw [← hY, hN, Nat.mul_add_mod, Nat.mod_eq_of_lt hm2] at h1; exact h1.symm
  rw [hMy, ← hMm, Nat.mul_div_cancel _ hp]; have : IntKind.u64.wrap (IntKind.u64.wrap ((Q1 : Int) * 4294967296) + (Q0 : Int)) = ((Q1 * 4294967296 + Q0 : Nat) : Int) := by
    simp only [wrap_u64]; omega
  rw [this]
theorem ZTm {hi lo y : Int} {z : Int × Int} (h : Zpd hi lo y = some z) : ZKf hi lo y = some z := by
  unfold Zpd at h; split at h
  · rename_i hh; obtain ⟨h1, h2, h3, h4, h5⟩ := hh; obtain ⟨H, rfl⟩ := Int.eq_ofNat_of_zero_le h1; obtain ⟨L, rfl⟩ := Int.eq_ofNat_of_zero_le h2; obtain ⟨Y, rfl⟩ := Int.eq_ofNat_of_zero_le (show 0 ≤ y by omega); rw [Z6m (by omega) (by omega) (by omega), ← h]; simp
  · cases h
noncomputable def ZAf (a : Nat) (n : Int) : Option (Nat × Int) :=
 bnd (mk 8 ((((Zg 18446744073709551616 a)).length : Int)) ((((Zg 18446744073709551616 a)).length : Int))) fun y9 =>
 bnd (chk .i64 (((((Zg 18446744073709551616 a)).length : Int)) - ((1 : Int)))) fun y31 =>
 bnd (bnd (Zna (fun s : (List Int) × Int × Int => match s with
 | (x75, x83, x85) =>
 (ifb (decide ((0 : Int) ≤ x85))
 (bnd (idx ((Zg 18446744073709551616 a)) x85) fun y114 =>
 bnd (Zpd x83 y114 n) fun y122 =>
 bnd (idx x75 x85) fun y132 =>
 bnd (chk .i64 (x85 - ((1 : Int)))) fun y164 =>
 some (.inl (((x75.set (x85).toNat y122.1), y122.2, y164))))
 (some (.inr ((x75, x83)))))) ZBa (((List.replicate ((((Zg 18446744073709551616 a)).length : Int)).toNat ((0 : Int))), (0 : Int), y31)))
 (fun (p : (List Int) × Int) => match p with
 | (x89, x97) =>
 (some ((x89, x97)))))
 (fun (p : (List Int) × Int) => match p with
 | (x34, x42) =>
 (bnd (Ztb x34) fun y56 =>
 some ((y56, x42))))
noncomputable def Zlf (a : Nat) (n : Int) : Option (Nat) :=
 bnd (ifb (((((Zg 18446744073709551616 a)).length : Int)) == ((0 : Int)))
 (some true)
 (some (n == ((0 : Int)))))
 (fun (x12 : Bool) =>
 (ifb (x12)
 (some a)
 (bnd (quo .i64 n ((64 : Int))) fun y25 =>
 bnd (chk .i64 (((((Zg 18446744073709551616 a)).length : Int)) + y25)) fun y27 =>
 bnd (chk .i64 (y27 + ((1 : Int)))) fun y29 =>
 bnd (mk 8 y29 y29) fun y31 =>
 bnd (bnd (Zna (fun s : (List Int) × Int => match s with
 | (x91, x99) =>
 (ifb (decide (x99 < (((Zg 18446744073709551616 a)).length : Int)))
 (bnd (idx ((Zg 18446744073709551616 a)) x99) fun y128 =>
 bnd (quo .i64 n ((64 : Int))) fun y144 =>
 bnd (chk .i64 (x99 + y144)) fun y146 =>
 bnd (idx x91 y146) fun y148 =>
 bnd (rem .i64 n ((64 : Int))) fun y155 =>
 bnd (ZQb .u64 y128 y155) fun y157 =>
 bnd (idx x91 y146) fun y159 =>
 bnd (quo .i64 n ((64 : Int))) fun y180 =>
 bnd (chk .i64 (x99 + y180)) fun y182 =>
 bnd (chk .i64 (y182 + ((1 : Int)))) fun y184 =>
 bnd (rem .i64 n ((64 : Int))) fun y186 =>
 bnd (chk .i64 (((64 : Int)) - y186)) fun y188 =>
 bnd (ZKa .u64 y128 y188) fun y190 =>
 bnd (idx ((x91.set (y146).toNat (orI .u64 y148 y157))) y184) fun y192 =>
 bnd (chk .i64 (x99 + ((1 : Int)))) fun y208 =>
 some (.inl (((((x91.set (y146).toNat (orI .u64 y148 y157))).set (y184).toNat y190), y208))))
 (some (.inr x91)))) ZBa (((List.replicate (y29).toNat ((0 : Int))), (0 : Int))))
 (fun (x103 : (List Int)) =>
 (some x103)))
 (fun (x52 : (List Int)) =>
 (bnd (Ztb x52) fun y72 =>
 some y72)))))
noncomputable def Zcg (a : Nat) (n : Int) : Option (Nat) :=
 bnd (quo .i64 n ((64 : Int))) fun y11 =>
 ifb (decide ((((Zg 18446744073709551616 a)).length : Int) ≤ y11))
 (some ((0 : Nat)))
 (bnd (quo .i64 n ((64 : Int))) fun y18 =>
 bnd (chk .i64 (((((Zg 18446744073709551616 a)).length : Int)) - y18)) fun y20 =>
 bnd (mk 8 y20 y20) fun y22 =>
 bnd (bnd (Zna (fun s : (List Int) × Int => match s with
 | (x82, x90) =>
 (ifb (decide (x90 < (((List.replicate (y20).toNat ((0 : Int)))).length : Int)))
 (bnd (quo .i64 n ((64 : Int))) fun y121 =>
 bnd (chk .i64 (x90 + y121)) fun y123 =>
 bnd (idx ((Zg 18446744073709551616 a)) y123) fun y125 =>
 bnd (rem .i64 n ((64 : Int))) fun y133 =>
 bnd (ZKa .u64 y125 y133) fun y135 =>
 bnd (idx x82 x90) fun y137 =>
 bnd (quo .i64 n ((64 : Int))) fun y163 =>
 bnd (chk .i64 (x90 + y163)) fun y165 =>
 bnd (chk .i64 (y165 + ((1 : Int)))) fun y167 =>
 bnd (ifb (decide (y167 < (((Zg 18446744073709551616 a)).length : Int)))
 (bnd (idx ((x82.set (x90).toNat y135)) x90) fun y188 =>
 bnd (quo .i64 n ((64 : Int))) fun y194 =>
 bnd (chk .i64 (x90 + y194)) fun y196 =>
 bnd (chk .i64 (y196 + ((1 : Int)))) fun y198 =>
 bnd (idx ((Zg 18446744073709551616 a)) y198) fun y200 =>
 bnd (rem .i64 n ((64 : Int))) fun y206 =>
 bnd (chk .i64 (((64 : Int)) - y206)) fun y208 =>
 bnd (ZQb .u64 y200 y208) fun y210 =>
 bnd (idx ((x82.set (x90).toNat y135)) x90) fun y212 =>
 some ((((x82.set (x90).toNat y135)).set (x90).toNat (orI .u64 y188 y210))))
 (some ((x82.set (x90).toNat y135))))
 (fun (x170 : (List Int)) =>
 (bnd (chk .i64 (x90 + ((1 : Int)))) fun y185 =>
 some (.inl ((x170, y185))))))
 (some (.inr x82)))) ZBa (((List.replicate (y20).toNat ((0 : Int))), (0 : Int))))
 (fun (x94 : (List Int)) =>
 (some x94)))
 (fun (x43 : (List Int)) =>
 (bnd (Ztb x43) fun y63 =>
 some y63)))
theorem ZOn {q r rest x V W B d : Nat} (h : V * d + rest = W) (e : q * d + r = rest * B + x) : (q + B * V) * d + r = x + B * W := by
  subst h; grind
theorem ZIn {n d : Nat} (hn : okN n) (hd : 0 < d) (hd' : d < 18446744073709551616) : ZAf n (d : Int) = some (n / d, ((n % d : Nat) : Int)) := by
  unfold ZAf; have hdx := Zkb (B := 18446744073709551616) (by decide) n; have hvx := Zdb (B := 18446744073709551616) (by decide) n; unfold okN at hn; generalize Zg 18446744073709551616 n = a at *; obtain ⟨u, hu⟩ := ZGc (b := 8) (l := (a.length : Int)) (c := (a.length : Int)) (by omega) (by omega) (by omega) (by omega); rw [hu, Zh, ZJa (by omega) (by omega), Zh, Z0a]; refine Zeb (fun s : (List Int) × Int × Int => ∃ k r : Nat, s.2.2 = (k : Int) - 1 ∧ s.2.1 = (r : Int) ∧ k ≤ a.length ∧ s.1.length = a.length ∧ r < d ∧
    val 18446744073709551616 (s.1.drop k) * d + r = val 18446744073709551616 (a.drop k)) (fun s => (s.2.2 + 1).toNat)
    (fun r : List Int × Int => val 18446744073709551616 r.1 = n / d ∧ r.2 = ((n % d : Nat) : Int))
    ⟨a.length, 0, rfl, rfl, by omega, by simp, hd, by simp [val]⟩ (ZZa (by simp; omega)) ?_ ?_
  · rintro ⟨out, c, i⟩ ⟨k, r, e1, e2, hk, ho, hr, hv⟩; simp only at e1 e2 ho hv ⊢; subst e1 e2; by_cases h0 : 0 < k
    · left; obtain ⟨j, rfl⟩ : ∃ j, k = j + 1 := ⟨k - 1, by omega⟩; have hj : j < a.length := by omega
      have hx := hdx.get hj; obtain ⟨X, hX⟩ := Int.eq_ofNat_of_zero_le hx.1; have ej : ((j + 1 : Nat) : Int) - 1 = (j : Int) := by omega
      rw [ej, decide_eq_true (by omega), Z1, Zua hj, Zh, hX]; have hdv : Zpd (r : Int) (X : Int) (d : Int) = some ((((r * 18446744073709551616 + X) / d : Nat) : Int), (((r * 18446744073709551616 + X) % d : Nat) : Int)) := by
        unfold Zpd; rw [if_pos ⟨by omega, by omega, by omega, by omega, by omega⟩]; simp
      rw [hdv, Zh, Zua (by omega), Zh, ZJa (by omega) (by omega), Zh]; refine ⟨_, rfl, ⟨j, _, rfl, rfl, by omega, by simp [ho], Nat.mod_lt _ hd, ?_⟩, by simp⟩; simp only [Int.toNat_natCast]; rw [Zgc (by simp; omega), List.getElem_set_self, List.drop_set_of_lt (by omega), Zgc hj, hX]; simp only [Int.toNat_natCast]; exact ZOn hv (by rw [Nat.mul_comm]; exact Nat.div_add_mod _ _)
    · right; have : k = 0 := by omega
      subst this; rw [decide_eq_false (by simp), ZY]; simp only [List.drop_zero] at hv; rw [hvx] at hv; refine ⟨_, rfl, ?_, ?_⟩
      · rw [← hv, Nat.mul_comm, Nat.mul_add_div hd, Nat.div_eq_of_lt hr]; rfl
      · rw [← hv, Nat.mul_comm, Nat.mul_add_mod, Nat.mod_eq_of_lt hr]
  · rintro ⟨out, c⟩ ⟨hv, hc⟩; simp only at hv hc ⊢; rw [Zh]; simp only; unfold Ztb; rw [Zh, hv, hc]
theorem Zvn {n : Nat} {d : Int} {z : Nat × Int} (hd : inR .u64 d) (h : Zsd n d = some z) : ZAf n d = some z := by
  unfold Zsd at h; split at h
  · rename_i hh; obtain ⟨h1, h2⟩ := hh; have := Zrd.1 hd; obtain ⟨D, rfl⟩ := Int.eq_ofNat_of_zero_le (show 0 ≤ d by omega); rw [ZIn h1 (by omega) (by omega), ← h]; simp
  · cases h
theorem ZUg {p q : Nat} (hq : 0 < q) (hp : p ≤ 9223372036854775807) : quo .i64 (p : Int) (q : Int) = some ((p / q : Nat) : Int) := by
  unfold quo; rw [if_neg (by omega)]; have e : (p : Int).tdiv (q : Int) = ((p / q : Nat) : Int) := by simp [Int.tdiv_eq_ediv_of_nonneg]
  have h : p / q ≤ p := Nat.div_le_self _ _; generalize p / q = r at *; rw [e, ZJa (by omega) (by omega)]
theorem Zgb {n : Nat} (h : n ≤ 9223372036854775807) : chk .i64 (n : Int) = some (n : Int) := ZJa (by omega) (by omega)
theorem Zuo {V V1 V2 t1 t2 T x K B Q hi lo R P : Nat} (hv : V = T * K) (h1 : V1 + Q * t1 = V + Q * (t1 + lo)) (h2 : V2 + Q * B * t2 = V1 + Q * B * hi) (ht2 : t2 = 0) (e : lo + B * hi = x * R) (hQ : Q * R = P * K) : V2 = (T + P * x) * K := by
  subst hv ht2; have : Q * (lo + B * hi) = Q * (x * R) := by rw [e]
  grind
theorem left_eq {n k : Nat} (hn : okN n) (hk : k ≤ 1099511627776) : Zlf n (k : Int) = some (n * 2 ^ k) := by
  unfold Zlf; by_cases hn0 : n = 0
  · subst hn0; rw [ZVa]; show some 0 = _; simp
  by_cases hk0 : k = 0
  · subst hk0; have : (((Zg 18446744073709551616 n).length : Int) == 0) = false := by
      have := (Zmc (n := n) (B := 18446744073709551616) (by decide)).2 hn0; have := List.length_pos_iff.2 this; simp; omega
    rw [this]; show some n = _; simp
  have e1 : (((Zg 18446744073709551616 n).length : Int) == 0) = false := by
    have := (Zmc (n := n) (B := 18446744073709551616) (by decide)).2 hn0; have := List.length_pos_iff.2 this; simp; omega
  have e2 : ((k : Int) == 0) = false := by simp; omega
  rw [e1, ZY, e2, Zh, ZY]; have hdx := Zkb (B := 18446744073709551616) (by decide) n; have hvx := Zdb (B := 18446744073709551616) (by decide) n; unfold okN at hn; generalize Zg 18446744073709551616 n = a at *; have eq64 : quo .i64 (k : Int) 64 = some ((k / 64 : Nat) : Int) := ZUg (q := 64) (by omega) (by omega); have er64 : rem .i64 (k : Int) 64 = some ((k % 64 : Nat) : Int) := Zce (q := 64) (by omega); obtain ⟨w, hw⟩ : ∃ w, w = k / 64 := ⟨_, rfl⟩; obtain ⟨s, hs⟩ : ∃ s, s = k % 64 := ⟨_, rfl⟩; have hks : k = 64 * w + s := by omega
  rw [← hw] at eq64; rw [← hs] at er64; rw [eq64, Zh]; have c1 : chk .i64 ((a.length : Int) + (w : Int)) = some ((a.length + w : Nat) : Int) := by rw [← Int.natCast_add, Zgb (by omega)]
  have c2 : chk .i64 (((a.length + w : Nat) : Int) + 1) = some ((a.length + w + 1 : Nat) : Int) := by rw [show ((a.length + w : Nat) : Int) + 1 = ((a.length + w + 1 : Nat) : Int) by omega, Zgb (by omega)]
  obtain ⟨u, hu⟩ := ZGc (b := 8) (l := ((a.length + w + 1 : Nat) : Int)) (c := ((a.length + w + 1 : Nat) : Int)) (by omega) (by omega) (by omega) (by omega); rw [c1, Zh, c2, Zh, hu, Zh, Z0a, Int.toNat_natCast]; have hp : 0 < 2 ^ s := Nat.pow_pos (by omega); have hB : 2 ^ (64 - s) * 2 ^ s = 18446744073709551616 := by rw [← Nat.pow_add, show 64 - s + s = 64 by omega]
  have hR : 18446744073709551616 ^ w * 2 ^ s = 2 ^ k := by
    rw [show (18446744073709551616 : Nat) = 2 ^ 64 from rfl, ← Nat.pow_mul, ← Nat.pow_add, ← hks]
  refine Zeb (fun st : (List Int) × Int => ∃ i : Nat, st.2 = (i : Int) ∧ i ≤ a.length ∧ st.1.length = a.length + w + 1 ∧ Dig 18446744073709551616 st.1 ∧
    val 18446744073709551616 st.1 = val 18446744073709551616 (a.take i) * 2 ^ k ∧ (∀ j (h : j < st.1.length), j = i + w → st.1[j] < (2 ^ s : Nat)) ∧ ∀ j (h : j < st.1.length), i + w < j → st.1[j] = 0) (fun st => a.length - st.2.toNat)
    (fun r : List Int => val 18446744073709551616 r = n * 2 ^ k) ⟨0, rfl, by omega, by simp, Dig.replicate _ (by omega), by simp [val, ZYh], by intro j h _; simp; exact_mod_cast hp, by simp⟩ (ZZa (by simp; omega)) ?_ ?_
  · rintro ⟨out, i⟩ ⟨i, rfl, hi, ho, hd, hv, ht, hz⟩; simp only at ho hd hv ht hz ⊢; by_cases hlt : i < a.length
    · left; have hx := hdx.get hlt; obtain ⟨X, hX⟩ := Int.eq_ofNat_of_zero_le hx.1; have hiw : i + w < out.length := by omega
      have ht' := ht _ hiw rfl; obtain ⟨T, hT⟩ := Int.eq_ofNat_of_zero_le (hd.get hiw).1; have c3 : chk .i64 ((i : Int) + (w : Int)) = some ((i + w : Nat) : Int) := by rw [← Int.natCast_add, Zgb (by omega)]
      have c4 : chk .i64 (((i + w : Nat) : Int) + 1) = some ((i + w + 1 : Nat) : Int) := by rw [show ((i + w : Nat) : Int) + 1 = ((i + w + 1 : Nat) : Int) by omega, Zgb (by omega)]
      have c5 : chk .i64 (64 - (s : Int)) = some ((64 - s : Nat) : Int) := by rw [show 64 - (s : Int) = ((64 - s : Nat) : Int) by omega, Zgb (by omega)]
      have c6 : decide ((i : Int) < (a.length : Int)) = true := decide_eq_true (by omega); have c7 := ZKd (x := X) (k := s) (by omega); have c8 := Zmd (x := X) (k := 64 - s) (by omega); simp only [c6, Z1, Zua hlt, Zh, eq64, c3, Zua hiw, er64, hX, c7, c4, c5, c8]; have hTs : T < 2 ^ s := by rw [hT] at ht'; exact_mod_cast ht'
      have hXlt : X < 18446744073709551616 := by omega
      have hdm := Nat.div_add_mod (X * 2 ^ s) 18446744073709551616; have hdiv : X * 2 ^ s / 18446744073709551616 = X / 2 ^ (64 - s) := by rw [← hB, Nat.mul_div_mul_right _ _ hp]
      have hmod : X * 2 ^ s % 18446744073709551616 = X % 2 ^ (64 - s) * 2 ^ s := by rw [← hB, Nat.mul_mod_mul_right]
      rw [hdiv] at hdm; have hhi : X / 2 ^ (64 - s) < 2 ^ s := by
        rw [Nat.div_lt_iff_lt_mul (Nat.pow_pos (by omega)), Nat.mul_comm, hB]; exact hXlt
      have hlo : X % 2 ^ (64 - s) * 2 ^ s + T < 18446744073709551616 := by
        have h1 : X % 2 ^ (64 - s) + 1 ≤ 2 ^ (64 - s) := Nat.mod_lt _ (Nat.pow_pos (by omega)); have h2 := Nat.mul_le_mul_right (2 ^ s) h1; rw [hB, Nat.add_mul] at h2; omega
      have hor : orI .u64 ((T : Nat) : Int) ((X * 2 ^ s % 18446744073709551616 : Nat) : Int) = ((X * 2 ^ s % 18446744073709551616 + T : Nat) : Int) := by
        have hc : orI .u64 (T : Int) ((X * 2 ^ s % 18446744073709551616 : Nat) : Int) = orI .u64 ((X * 2 ^ s % 18446744073709551616 : Nat) : Int) (T : Int) := by
          unfold orI; rw [BitVec.or_comm]
        rw [hc, hmod, Zme hTs hlo]
      simp only [Int.toNat_natCast]; rw [hT, hor]; have hiw1 : i + w + 1 < (out.set (i + w) ((X * 2 ^ s % 18446744073709551616 + T : Nat) : Int)).length := by simp; omega
      rw [Zua hiw1, Zh, ZJa (by omega) (by omega), Zh]; have h2s : 2 ^ s ≤ 18446744073709551616 := by rw [← hB]; exact Nat.le_mul_of_pos_left _ (Nat.pow_pos (by omega))
      refine ⟨_, rfl, ⟨i + 1, by simp, by omega, by simp [ho], ?_, ?_, ?_, ?_⟩, by simp; omega⟩
      · refine (hd.set _ ?_).set _ ?_
        · rw [hmod]; omega
        · omega
      · have h1 := Zbf (B := 18446744073709551616) (l := out) (i := i + w) (x := ((X * 2 ^ s % 18446744073709551616 + T : Nat) : Int)) hiw; have h2 := Zbf (B := 18446744073709551616) (x := ((X / 2 ^ (64 - s) : Nat) : Int)) hiw1; rw [List.getElem_set_ne (by omega), hz _ (by omega) (by omega)] at h2; rw [hT] at h1; simp only [Int.toNat_natCast] at h1 h2; rw [ZGb hlt, hX]; simp only [Int.toNat_natCast]; rw [Nat.pow_succ] at h2; rw [Nat.add_comm (X * 2 ^ s % 18446744073709551616) T] at h1 h2 ⊢; exact Zuo (R := 2 ^ s) hv h1 h2 rfl (by omega) (by rw [Nat.pow_add, Nat.mul_assoc, hR])
      · intro j hj hj2; have hj3 : j = i + w + 1 := by omega
        subst hj3; rw [List.getElem_set_self]
        exact_mod_cast hhi
      · intro j hj hj2; rw [List.getElem_set_ne (by omega), List.getElem_set_ne (by omega)]; exact hz j (by simpa using hj) (by omega)
    · right; rw [decide_eq_false (by omega), ZY]; have hi' : i = a.length := by omega
      subst hi'; rw [List.take_length, hvx] at hv; exact ⟨_, rfl, hv⟩
  · rintro out hv; rw [Zh]; unfold Ztb; rw [hv, Zh]
theorem Zwl {n : Nat} {k : Int} {z : Nat} (h : Zic n k = some z) : Zlf n k = some z := by
  unfold Zic at h; split at h
  · rename_i hh; obtain ⟨h1, h2, h3⟩ := hh; obtain ⟨K, rfl⟩ := Int.eq_ofNat_of_zero_le h2; rw [left_eq h1 (by omega), ← h]; simp
  · cases h
theorem Zol {V T x xs x' xs' ph P B R D lo0 : Nat} (h : V * R + lo0 = T + P * xs) (e : D * R + xs = x + B * xs') : (V + P * D) * R + lo0 = T + P * x + P * B * xs' := by
  have : P * (D * R + xs) = P * (x + B * xs') := by rw [e]
  grind
theorem Z5l {n k : Nat} (hn : okN n) (hk : k ≤ 9223372036854775807) : Zcg n (k : Int) = some (n / 2 ^ k) := by
  unfold Zcg; have hdx := Zkb (B := 18446744073709551616) (by decide) n; have hvx := Zdb (B := 18446744073709551616) (by decide) n; unfold okN at hn; generalize Zg 18446744073709551616 n = a at *; have eq64 : quo .i64 (k : Int) 64 = some ((k / 64 : Nat) : Int) := ZUg (q := 64) (by omega) (by omega); have er64 : rem .i64 (k : Int) 64 = some ((k % 64 : Nat) : Int) := Zce (q := 64) (by omega); obtain ⟨w, hw⟩ : ∃ w, w = k / 64 := ⟨_, rfl⟩; obtain ⟨s, hs⟩ : ∃ s, s = k % 64 := ⟨_, rfl⟩; have hks : k = 64 * w + s := by omega
  rw [← hw] at eq64; rw [← hs] at er64; have hR : 18446744073709551616 ^ w * 2 ^ s = 2 ^ k := by
    rw [show (18446744073709551616 : Nat) = 2 ^ 64 from rfl, ← Nat.pow_mul, ← Nat.pow_add, ← hks]
  rw [eq64, Zh]; by_cases hwl : a.length ≤ w
  · rw [decide_eq_true (by omega), Z1]; congr 1; symm; apply Nat.div_eq_of_lt; have h1 := Z4c hdx; rw [hvx] at h1; have h2 : 18446744073709551616 ^ a.length ≤ 18446744073709551616 ^ w := Nat.pow_le_pow_right (by omega) hwl; have h3 : 18446744073709551616 ^ w * 1 ≤ 18446744073709551616 ^ w * 2 ^ s := Nat.mul_le_mul_left _ (Nat.pow_pos (by omega)); omega
  rw [decide_eq_false (by omega), ZY, Zh]; have c1 : chk .i64 ((a.length : Int) - (w : Int)) = some ((a.length - w : Nat) : Int) := by rw [ZJa (by omega) (by omega)]; congr 1; omega
  obtain ⟨u, hu⟩ := ZGc (b := 8) (l := ((a.length - w : Nat) : Int)) (c := ((a.length - w : Nat) : Int)) (by omega) (by omega) (by omega) (by omega); rw [c1, Zh, hu, Zh, Z0a, Int.toNat_natCast]; have hp : 0 < 2 ^ s := Nat.pow_pos (by omega); have hB : 2 ^ (64 - s) * 2 ^ s = 18446744073709551616 := by rw [← Nat.pow_add, show 64 - s + s = 64 by omega]
  have hB' : 2 ^ s * 2 ^ (64 - s) = 18446744073709551616 := by rw [Nat.mul_comm]; exact hB
  have h2s : 2 ^ s ≤ 18446744073709551616 := by rw [← hB]; exact Nat.le_mul_of_pos_left _ (Nat.pow_pos (by omega))
  obtain ⟨A, hA⟩ : ∃ A, A = a.drop w := ⟨_, rfl⟩; have hAl : A.length = a.length - w := by rw [hA, List.length_drop]
  have hdA : Dig 18446744073709551616 A := by rw [hA]; exact hdx.drop w
  have hAg : ∀ j (h : j < A.length), A[j] = a[j + w]'(by omega) := by intro j h; subst hA; simp [Nat.add_comm]
  have low : ∀ j, ∃ q : Nat, (∀ (h : j < A.length), A[j] = (q : Int)) ∧ (A.length ≤ j → q = 0) ∧ q < 18446744073709551616 := by
    intro j; by_cases h : j < A.length
    · obtain ⟨X, hX⟩ := Int.eq_ofNat_of_zero_le (hdA.get h).1; have := (hdA.get h).2; exact ⟨X, fun _ => hX, fun h' => by omega, by omega⟩
    · exact ⟨0, fun h' => by omega, fun _ => rfl, by omega⟩
  have hrep : (List.replicate (a.length - w) (0 : Int)).length = A.length := by simp [hAl]
  rw [hrep]; obtain ⟨q0, hq0⟩ := low 0; refine Zeb (fun st : (List Int) × Int => ∃ i q : Nat, st.2 = (i : Int) ∧ i ≤ A.length ∧ st.1.length = A.length ∧ Dig 18446744073709551616 st.1 ∧
    ((∀ (h : i < A.length), A[i] = (q : Int)) ∧ (A.length ≤ i → q = 0) ∧ q < 18446744073709551616) ∧
    val 18446744073709551616 (st.1.take i) * 2 ^ s + q0 % 2 ^ s = val 18446744073709551616 (A.take i) + 18446744073709551616 ^ i * (q % 2 ^ s)) (fun st => A.length - st.2.toNat)
    (fun r : List Int => r.length = A.length ∧ val 18446744073709551616 r * 2 ^ s + q0 % 2 ^ s = val 18446744073709551616 A) ⟨0, q0, rfl, by omega, by simp [hAl], Dig.replicate _ (by omega), hq0, by simp [val]⟩ (ZZa (by simp; omega)) ?_ ?_
  · rintro ⟨out, i⟩ ⟨i, q, rfl, hi, ho, hd, ⟨hq1, hq2, hq3⟩, hv⟩; simp only at ho hd hv ⊢; by_cases hlt : i < A.length
    · left; have hq := hq1 hlt; obtain ⟨q', hq'1, hq'2, hq'3⟩ := low (i + 1); have hio : i < out.length := by omega
      have hia : i + w < a.length := by omega
      have c3 : chk .i64 ((i : Int) + (w : Int)) = some ((i + w : Nat) : Int) := by rw [← Int.natCast_add, Zgb (by omega)]
      have c4 : chk .i64 (((i + w : Nat) : Int) + 1) = some ((i + w + 1 : Nat) : Int) := by rw [show ((i + w : Nat) : Int) + 1 = ((i + w + 1 : Nat) : Int) by omega, Zgb (by omega)]
      have c5 : chk .i64 (64 - (s : Int)) = some ((64 - s : Nat) : Int) := by rw [show 64 - (s : Int) = ((64 - s : Nat) : Int) by omega, Zgb (by omega)]
      have c6 : decide ((i : Int) < (A.length : Int)) = true := decide_eq_true (by omega); have c8 := Zmd (x := q) (k := s) (by omega); have c9 : chk .i64 ((i : Int) + 1) = some ((i + 1 : Nat) : Int) := by rw [show (i : Int) + 1 = ((i + 1 : Nat) : Int) by omega, Zgb (by omega)]
      have haq : a[i + w] = (q : Int) := by rw [← hAg i hlt]; exact hq
      have hqs : q / 2 ^ s < 2 ^ (64 - s) := by rw [Nat.div_lt_iff_lt_mul hp, hB]; exact hq3
      have hqd := Nat.div_add_mod q (2 ^ s); have hqle : q / 2 ^ s ≤ q := Nat.div_le_self _ _; simp only [c6, Z1, Zh, eq64, c3, Zua hia, er64, haq, c8, Zua hio, c4]; have key : ∀ D : Nat, D < 18446744073709551616 → D * 2 ^ s + q % 2 ^ s = q + 18446744073709551616 * (q' % 2 ^ s) → val 18446744073709551616 ((out.set i (D : Int)).take (i + 1)) * 2 ^ s + q0 % 2 ^ s = val 18446744073709551616 (A.take (i + 1)) + 18446744073709551616 ^ (i + 1) * (q' % 2 ^ s) := by
        intro D hD e; rw [ZDe hio, ZGb hlt, hq, Nat.pow_succ]; simp only [Int.toNat_natCast]; exact Zol (x' := 0) (ph := 0) hv e
      by_cases hnext : i + 1 < A.length
      · have hia1 : i + w + 1 < a.length := by omega
        have haq' : a[i + w + 1] = (q' : Int) := by
          have h1 := hAg _ hnext; rw [hq'1 hnext] at h1; have e : i + 1 + w = i + w + 1 := by omega
          simp only [e] at h1; exact h1.symm
        have c10 := ZKd (x := q') (k := 64 - s) (by omega); have c11 : decide (((i + w + 1 : Nat) : Int) < (a.length : Int)) = true := decide_eq_true (by omega); have hmod : q' * 2 ^ (64 - s) % 18446744073709551616 = q' % 2 ^ s * 2 ^ (64 - s) := by rw [← hB', Nat.mul_mod_mul_right]
        have hlo : q' % 2 ^ s * 2 ^ (64 - s) + q / 2 ^ s < 18446744073709551616 := by
          have h1 : q' % 2 ^ s + 1 ≤ 2 ^ s := Nat.mod_lt _ hp; have h2 := Nat.mul_le_mul_right (2 ^ (64 - s)) h1; rw [hB', Nat.add_mul] at h2; omega
        have hor : orI .u64 ((q / 2 ^ s : Nat) : Int) ((q' * 2 ^ (64 - s) % 18446744073709551616 : Nat) : Int) = ((q' % 2 ^ s * 2 ^ (64 - s) + q / 2 ^ s : Nat) : Int) := by
          have hc : orI .u64 ((q / 2 ^ s : Nat) : Int) ((q' * 2 ^ (64 - s) % 18446744073709551616 : Nat) : Int) = orI .u64 ((q' * 2 ^ (64 - s) % 18446744073709551616 : Nat) : Int) ((q / 2 ^ s : Nat) : Int) := by
            unfold orI; rw [BitVec.or_comm]
          rw [hc, hmod, Zme hqs hlo]
        have c12 : idx (out.set i ((q / 2 ^ s : Nat) : Int)) (i : Int) = some ((q / 2 ^ s : Nat) : Int) := by
          rw [Zua (by simp; omega), List.getElem_set_self]
        have c13 : i < (out.set i ((q / 2 ^ s : Nat) : Int)).length := by simp; omega
        simp only [c11, Z1, Zh, Int.toNat_natCast, c12, eq64, c3, c4, c5, er64, Zua hia1, haq', c10, hor, c9, List.set_set]; refine ⟨_, rfl, ⟨i + 1, q', rfl, by omega, by simp [ho], hd.set _ ⟨Int.natCast_nonneg _, by exact_mod_cast hlo⟩, ⟨hq'1, hq'2, hq'3⟩, ?_⟩, by simp; omega⟩; refine key _ hlo ?_; rw [Nat.add_mul, Nat.mul_assoc, hB]; have := Nat.mul_comm (2 ^ s) (q / 2 ^ s); omega
      · have c11 : decide (((i + w + 1 : Nat) : Int) < (a.length : Int)) = false := decide_eq_false (by omega); simp only [c11, ZY, Zh, Int.toNat_natCast, c9]; refine ⟨_, rfl, ⟨i + 1, q', rfl, by omega, by simp [ho], hd.set _ ⟨Int.natCast_nonneg _, by exact_mod_cast (Nat.lt_of_le_of_lt hqle hq3)⟩, ⟨hq'1, hq'2, hq'3⟩, ?_⟩, by simp; omega⟩; refine key _ (Nat.lt_of_le_of_lt hqle hq3) ?_; rw [hq'2 (by omega)]; have := Nat.mul_comm (2 ^ s) (q / 2 ^ s); simp; omega
    · right; have c6 : decide ((i : Int) < (A.length : Int)) = false := decide_eq_false (by omega); simp only [c6, ZY]; have hi' : i = A.length := by omega
      subst hi'; rw [hq2 (by omega), ← ho, List.take_length, ho, List.take_length] at hv; exact ⟨_, rfl, ho, by simpa using hv⟩
  · rintro out ⟨ho, hv⟩; rw [Zh]; unfold Ztb; rw [Zh]; congr 1; have h1 : n / 2 ^ k = val 18446744073709551616 A / 2 ^ s := by
      have h2 := ZXc 18446744073709551616 a w (by omega); rw [← hA, hvx] at h2; have h3 := Z4c (hdx.take w); rw [List.length_take, Nat.min_eq_left (by omega)] at h3; rw [← hR, ← Nat.div_div_eq_div_mul, h2, Nat.add_comm, Nat.mul_add_div (Nat.pow_pos (by omega)), Nat.div_eq_of_lt h3, Nat.add_zero]
    rw [h1, ← hv, Nat.mul_comm, Nat.mul_add_div hp, Nat.div_eq_of_lt (Nat.mod_lt _ hp), Nat.add_zero]
theorem ZFn {n : Nat} {k : Int} {z : Nat} (hk : inR .i64 k) (h : ZZe n k = some z) : Zcg n k = some z := by
  unfold ZZe at h; split at h
  · rename_i hh; obtain ⟨h1, h2⟩ := hh; have := ZPb.1 hk; obtain ⟨K, rfl⟩ := Int.eq_ofNat_of_zero_le h2; rw [Z5l h1 (by omega), ← h]; simp
  · cases h
noncomputable def ZRf (u : (List Int)) (v : Nat) (q : Int) : Option (Bool × (List Int)) :=
 bnd (chk .i64 (((((Zg 18446744073709551616 v)).length : Int)) + ((1 : Int)))) fun y9 =>
 bnd (mk 8 y9 y9) fun y11 =>
 bnd (bnd (Zna (fun s : (List Int) × Int × Int => match s with
 | (x258, x266, x268) =>
 (ifb (decide (x268 < (((Zg 18446744073709551616 v)).length : Int)))
 (bnd (idx ((Zg 18446744073709551616 v)) x268) fun y299 =>
 bnd (Zod y299 q) fun y315 =>
 bnd (Zdc y315.2 x266 ((0 : Int))) fun y337 =>
 bnd (idx x258 x268) fun y339 =>
 bnd (chk .i64 (x268 + ((1 : Int)))) fun y357 =>
 some (.inl (((x258.set (x268).toNat y337.1), IntKind.u64.wrap (y315.1 + y337.2), y357))))
 (some (.inr ((x258, x266)))))) ZBa (((List.replicate (y9).toNat ((0 : Int))), (0 : Int), (0 : Int))))
 (fun (p : (List Int) × Int) => match p with
 | (x272, x280) =>
 (some ((x272, x280)))))
 (fun (p : (List Int) × Int) => match p with
 | (x34, x42) =>
 (bnd (idx x34 ((((Zg 18446744073709551616 v)).length : Int))) fun y53 =>
 bnd (Ztb u) fun y85 =>
 bnd (Ztb ((x34.set ((((Zg 18446744073709551616 v)).length : Int)).toNat x42))) fun y104 =>
 bnd (Zad y85 y104) fun y113 =>
 ifb (decide (y113 < (0 : Int)))
 (some ((false, u)))
 (bnd (bnd (Zna (fun s : (List Int) × Int × Int => match s with
 | (x186, x190, x192) =>
 (ifb (decide (x192 < (u.length : Int)))
 (bnd (idx x186 x192) fun y217 =>
 bnd (idx ((x34.set ((((Zg 18446744073709551616 v)).length : Int)).toNat x42)) x192) fun y223 =>
 bnd (Zld y217 y223 x190) fun y229 =>
 bnd (idx x186 x192) fun y231 =>
 bnd (chk .i64 (x192 + ((1 : Int)))) fun y255 =>
 some (.inl (((x186.set (x192).toNat y229.1), y229.2, y255))))
 (some (.inr x186)))) ZBa ((u, (0 : Int), (0 : Int))))
 (fun (x196 : (List Int)) =>
 (some x196)))
 (fun (x173 : (List Int)) =>
 (some ((true, x173)))))))
noncomputable def Z3h (n : Int) : Option (Nat) :=
 bnd (Ztb ([n])) fun y13 =>
 some y13
theorem Ztn {n : Int} {z : Nat} (h : ZWb n = some z) : Z3h n = some z := by
  unfold ZWb at h; unfold Z3h Ztb; rw [Zh, ← h]; simp [val]
theorem ZVn {V Q P c c' d y q B : Nat} (h : V + Q * c = P * q) (e : d + B * c' = y * q + c) : (V + Q * d) + Q * B * c' = (P + Q * y) * q := by
  have : Q * (d + B * c') = Q * (y * q + c) := by rw [e]
  grind
theorem take_eq {u : List Int} {v q : Nat} (hd : Dig 18446744073709551616 u) (hv : okN v) (hl : u.length = (Zg 18446744073709551616 v).length + 1) (hq : q < 18446744073709551616) :
    ZRf u v (q : Int) = if val 18446744073709551616 u < v * q then some (false, u) else some (true, Z1b u.length (val 18446744073709551616 u - v * q)) := by
  unfold ZRf; have hdx := Zkb (B := 18446744073709551616) (by decide) v; have hvx := Zdb (B := 18446744073709551616) (by decide) v; unfold okN at hv; generalize Zg 18446744073709551616 v = a at *; have c1 : chk .i64 ((a.length : Int) + 1) = some ((a.length + 1 : Nat) : Int) := by rw [show (a.length : Int) + 1 = ((a.length + 1 : Nat) : Int) by omega, Zgb (by omega)]
  obtain ⟨w, hw⟩ := ZGc (b := 8) (l := ((a.length + 1 : Nat) : Int)) (c := ((a.length + 1 : Nat) : Int)) (by omega) (by omega) (by omega) (by omega); rw [c1, Zh, hw, Zh, Z0a, Int.toNat_natCast]; have goal_some : ∃ z, (if val 18446744073709551616 u < v * q then some (false, u) else some (true, Z1b u.length (val 18446744073709551616 u - v * q))) = some z := by split <;> exact ⟨_, rfl⟩
  obtain ⟨z, hz⟩ := goal_some; rw [hz]; refine Zeb (fun s : (List Int) × Int × Int => ∃ k c : Nat, s.2.2 = (k : Int) ∧ s.2.1 = (c : Int) ∧ k ≤ a.length ∧ s.1.length = a.length + 1 ∧ Dig 18446744073709551616 s.1 ∧ c < 18446744073709551616 ∧
    val 18446744073709551616 (s.1.take k) + 18446744073709551616 ^ k * c = val 18446744073709551616 (a.take k) * q) (fun s => a.length - s.2.2.toNat)
    (fun r : List Int × Int => ∃ c : Nat, r.2 = (c : Int) ∧ r.1.length = a.length + 1 ∧ Dig 18446744073709551616 r.1 ∧ c < 18446744073709551616 ∧ val 18446744073709551616 (r.1.take a.length) + 18446744073709551616 ^ a.length * c = v * q)
    ⟨0, 0, rfl, rfl, by omega, by simp, Dig.replicate _ (by omega), by omega, by simp [val]⟩ (ZZa (by simp; omega)) ?_ ?_
  · rintro ⟨p, c, i⟩ ⟨k, c, rfl, rfl, hk, ho, hdp, hc, hv2⟩; simp only at ho hdp hv2 ⊢; by_cases hlt : k < a.length
    · left; have hx := hdx.get hlt; obtain ⟨X, hX⟩ := Int.eq_ofNat_of_zero_le hx.1; have hX' : X < 18446744073709551616 := by omega
      have hxq : X * q ≤ 18446744073709551615 * 18446744073709551615 := Nat.mul_le_mul (by omega) (by omega); have c2 : decide ((k : Int) < (a.length : Int)) = true := decide_eq_true (by omega); have c3 : chk .i64 ((k : Int) + 1) = some ((k + 1 : Nat) : Int) := by rw [show (k : Int) + 1 = ((k + 1 : Nat) : Int) by omega, Zgb (by omega)]
      have hkp : k < p.length := by omega
      have c4 := Zsi hX' hq; have c5 := Z9f (x := ((X * q % 18446744073709551616 : Nat) : Int)) (y := (c : Int)) (c := 0) (by omega) (by omega) (by omega) (by omega); simp only [c2, Z1, Zua hlt, Zh, hX, c4, c5, Zua hkp, c3]; generalize hp : X * q = t at *; have e1 : IntKind.u64.wrap (((t / 18446744073709551616 : Nat) : Int) + (((t % 18446744073709551616 : Nat) : Int) + (c : Int) + 0) / 18446744073709551616) = (((t + c) / 18446744073709551616 : Nat) : Int) := by
        rw [wrap_u64]; omega
      have e2 : (((t % 18446744073709551616 : Nat) : Int) + (c : Int) + 0) % 18446744073709551616 = (((t + c) % 18446744073709551616 : Nat) : Int) := by omega
      rw [e1, e2]; refine ⟨_, rfl, ⟨k + 1, _, rfl, rfl, by omega, by simp [ho], hdp.set _ ⟨by omega, by omega⟩, by omega, ?_⟩, by simp; omega⟩; simp only [Int.toNat_natCast]; rw [ZDe hkp, ZGb hlt, hX, Nat.pow_succ]; simp only [Int.toNat_natCast]; exact ZVn hv2 (by rw [hp]; omega)
    · right; have c2 : decide ((k : Int) < (a.length : Int)) = false := decide_eq_false (by omega); simp only [c2, ZY]; have hk' : k = a.length := by omega
      subst hk'; rw [List.take_length, hvx] at hv2; exact ⟨_, rfl, c, rfl, ho, hdp, hc, hv2⟩
  · rintro ⟨p, c⟩ ⟨c, hcc, ho, hdp, hc, hv2⟩; simp only at hcc ho hdp hv2; subst hcc; rw [Zh]; have hlp : a.length < p.length := by omega
    simp only [Zua hlp, Zh, Int.toNat_natCast]; obtain ⟨P, hP⟩ : ∃ P, P = p.set a.length (c : Int) := ⟨_, rfl⟩; have hPl : P.length = a.length + 1 := by rw [hP]; simp [ho]
    have hPd : Dig 18446744073709551616 P := by rw [hP]; exact hdp.set _ ⟨by omega, by omega⟩
    have hPv : val 18446744073709551616 P = v * q := by
      rw [← hv2]; have := ZDe (B := 18446744073709551616) (l := p) (x := (c : Int)) hlp; rw [← hP, ← hPl, List.take_length] at this; rw [this]; simp
    rw [← hP]; have hcut : Ztb u = some (val 18446744073709551616 u) := rfl; have hcut2 : Ztb P = some (v * q) := by unfold Ztb; rw [hPv]
    have hcmp : ∀ n m, Zad n m = some (Zhb n m) := fun _ _ => rfl; simp only [hcut, hcut2, hcmp, Zh]; by_cases hlt : val 18446744073709551616 u < v * q
    · have : Zhb (val 18446744073709551616 u) (v * q) = -1 := by unfold Zhb; rw [if_pos hlt]
      rw [this, show decide ((-1 : Int) < 0) = true from rfl, Z1]; rw [if_pos hlt] at hz; exact hz
    · have : decide (Zhb (val 18446744073709551616 u) (v * q) < 0) = false := by
        unfold Zhb; rw [if_neg hlt]; split <;> rfl
      rw [this, ZY, Z0a]; rw [if_neg hlt] at hz; rw [← hz]; have hle : v * q ≤ val 18446744073709551616 u := by omega
      refine Zeb (fun s : (List Int) × Int × Int => ∃ k c : Nat, s.2.2 = (k : Int) ∧ s.2.1 = (c : Int) ∧ k ≤ u.length ∧ s.1.length = u.length ∧ Dig 18446744073709551616 s.1 ∧ c ≤ 1 ∧ s.1.drop k = u.drop k ∧
        val 18446744073709551616 (s.1.take k) + val 18446744073709551616 (P.take k) = val 18446744073709551616 (u.take k) + 18446744073709551616 ^ k * c) (fun s => u.length - s.2.2.toNat)
        (fun r : List Int => r.length = u.length ∧ Dig 18446744073709551616 r ∧ val 18446744073709551616 r = val 18446744073709551616 u - v * q)
        ⟨0, 0, rfl, rfl, by omega, rfl, hd, by omega, rfl, by simp [val]⟩ (ZZa (by simp; omega)) ?_ ?_
      · rintro ⟨o, b, i⟩ ⟨k, b, rfl, rfl, hk, ho2, hdo, hb, hdr, hv3⟩; simp only at ho2 hdo hdr hv3 ⊢; by_cases hlt2 : k < u.length
        · left; have hko : k < o.length := by omega
          have hkP : k < P.length := by omega
          have hou : o[k] = u[k] := by
            rw [List.drop_eq_getElem_cons hko, List.drop_eq_getElem_cons hlt2] at hdr; exact (List.cons.inj hdr).1
          obtain ⟨X, hX⟩ := Int.eq_ofNat_of_zero_le (hd.get hlt2).1; obtain ⟨Y, hY⟩ := Int.eq_ofNat_of_zero_le (hPd.get hkP).1; have hX2 := (hd.get hlt2).2; have hY2 := (hPd.get hkP).2; have c2 : decide ((k : Int) < (u.length : Int)) = true := decide_eq_true (by omega); have c3 : chk .i64 ((k : Int) + 1) = some ((k + 1 : Nat) : Int) := by rw [show (k : Int) + 1 = ((k + 1 : Nat) : Int) by omega, Zgb (by omega)]
          have c5 := Zmj (x := (X : Int)) (y := (Y : Int)) (c := (b : Int)) (by omega) (by omega) (by omega) (by omega); simp only [c2, Z1, Zua hko, hou, hX, Zh, Zua hkP, hY, c5, c3]; obtain ⟨b', hb'⟩ : ∃ b' : Nat, (if (X : Int) < (Y : Int) + (b : Int) then (1 : Int) else 0) = (b' : Int) := by
            by_cases hxy : (X : Int) < (Y : Int) + (b : Int)
            · exact ⟨1, if_pos hxy⟩
            · exact ⟨0, if_neg hxy⟩
          rw [hb']; have hbb : b' ≤ 1 ∧ ((X : Int) - Y - b) % 18446744073709551616 + Y + b = X + 18446744073709551616 * b' := by
            split at hb' <;> omega
          refine ⟨_, rfl, ⟨k + 1, b', rfl, rfl, by omega, by simp [ho2], hdo.set _ ⟨by omega, by omega⟩, hbb.1, ?_, ?_⟩, by simp; omega⟩
          · simp only [Int.toNat_natCast]; rw [List.drop_set_of_lt (by omega)]; rw [List.drop_eq_getElem_cons hko, List.drop_eq_getElem_cons hlt2] at hdr; exact (List.cons.inj hdr).2
          · simp only [Int.toNat_natCast]; rw [ZDe hko, ZGb hlt2, ZGb hkP, hX, hY, Nat.pow_succ]; exact Zjj hv3 (by simp only [Int.toNat_natCast]; omega)
        · right; have c2 : decide ((k : Int) < (u.length : Int)) = false := decide_eq_false (by omega); simp only [c2, ZY]; have hk' : k = u.length := by omega
          subst hk'; have e1 : P.take u.length = P := by rw [hl, ← hPl, List.take_length]
          rw [← ho2, List.take_length, ho2, e1, hPv, List.take_length] at hv3; refine ⟨_, rfl, ho2, hdo, ?_⟩; have h1 := Z4c hdo; rw [ho2] at h1; have h2 : b = 0 ∨ b = 1 := by omega
          rcases h2 with rfl | rfl
          · omega
          · rw [Nat.mul_one] at hv3; omega
      · rintro r ⟨h1, h2, h3⟩; rw [Zh, ← h3, ← h1, Zqk h2]
theorem Zsl {u : List Int} {v : Nat} {q : Int} {z : Bool × List Int} (hd : Dig 18446744073709551616 u) (hq : inR .u64 q) (h : ZQe u v q = some z) : ZRf u v q = some z := by
  unfold ZQe at h; split at h
  · rename_i hh; have := Zrd.1 hq; obtain ⟨Q, rfl⟩ := Int.eq_ofNat_of_zero_le (show 0 ≤ q by omega); rw [take_eq hd hh.1 hh.2 (by omega), ← h]; simp
  · cases h
noncomputable def ZDf (u : (List Int)) (v : Nat) : Option (Int × (List Int)) :=
 bnd (idx u ((((Zg 18446744073709551616 v)).length : Int))) fun y14 =>
 bnd (chk .i64 (((((Zg 18446744073709551616 v)).length : Int)) - ((1 : Int)))) fun y20 =>
 bnd (idx ((Zg 18446744073709551616 v)) y20) fun y22 =>
 bnd (ifb (decide (y14 < y22))
 (bnd (idx u ((((Zg 18446744073709551616 v)).length : Int))) fun y121 =>
 bnd (chk .i64 (((((Zg 18446744073709551616 v)).length : Int)) - ((1 : Int)))) fun y127 =>
 bnd (idx u y127) fun y129 =>
 bnd (chk .i64 (((((Zg 18446744073709551616 v)).length : Int)) - ((1 : Int)))) fun y135 =>
 bnd (idx ((Zg 18446744073709551616 v)) y135) fun y137 =>
 bnd (Zpd y121 y129 y137) fun y143 =>
 bnd (bnd (Zna (fun s : Int × Int => match s with
 | (x183, x185) =>
 (bnd (chk .i64 (((((Zg 18446744073709551616 v)).length : Int)) - ((2 : Int)))) fun y201 =>
 bnd (idx ((Zg 18446744073709551616 v)) y201) fun y203 =>
 bnd (Zod x183 y203) fun y209 =>
 bnd (ifb (decide (y209.1 < x185))
 (some true)
 (ifb (y209.1 == x185)
 (bnd (chk .i64 (((((Zg 18446744073709551616 v)).length : Int)) - ((2 : Int)))) fun y270 =>
 bnd (idx u y270) fun y272 =>
 some (decide (y209.2 ≤ y272)))
 (some false)))
 (fun (x236 : Bool) =>
 (ifb (x236)
 (some (.inr x183))
 (bnd (chk .i64 (((((Zg 18446744073709551616 v)).length : Int)) - ((1 : Int)))) fun y251 =>
 bnd (idx ((Zg 18446744073709551616 v)) y251) fun y253 =>
 bnd (Zdc x185 y253 ((0 : Int))) fun y259 =>
 ifb (decide ((0 : Int) < y259.2))
 (some (.inr (IntKind.u64.wrap (x183 - ((1 : Int))))))
 (some (.inl ((IntKind.u64.wrap (x183 - ((1 : Int))), y259.1))))))))) ZBa ((y143.1, y143.2)))
 (fun (x189 : Int) =>
 (some x189)))
 (fun (x174 : Int) =>
 (some x174)))
 (some ((18446744073709551615 : Int))))
 (fun (x41 : Int) =>
 (bnd (bnd (Zna (fun s : (List Int) × Int => match s with
 | (x68, x72) =>
 (bnd (ZQe x68 v x72) fun y94 =>
 ifb (!(y94.1))
 (some (.inl ((y94.2, IntKind.u64.wrap (x72 - ((1 : Int)))))))
 (some (.inr ((y94.2, x72)))))) ZBa ((u, x41)))
 (fun (p : (List Int) × Int) => match p with
 | (x76, x80) =>
 (some ((x76, x80)))))
 (fun (p : (List Int) × Int) => match p with
 | (x53, x57) =>
 (some ((x57, x53))))))
theorem top2 {B : Nat} {a : List Int} {n : Nat} (hn : a.length = n + 2) : val B a = val B (a.take n) + B ^ n * ((a[n]'(by omega)).toNat + B * (a[n + 1]'(by omega)).toNat) := by
  rw [ZXc B a n (by omega), Zgc (by omega), Zgc (by omega), List.drop_of_length_le (by omega)]; simp [val]
theorem top3 {B : Nat} {a : List Int} {n : Nat} (hn : a.length = n + 3) : val B a = val B (a.take n) + B ^ n * ((a[n]'(by omega)).toNat + B * ((a[n + 1]'(by omega)).toNat + B * (a[n + 2]'(by omega)).toNat)) := by
  rw [ZXc B a n (by omega), Zgc (by omega), Zgc (by omega), Zgc (by omega), List.drop_of_length_le (by omega)]; simp [val]
theorem ZYn {Q v v1 v2 lowv lowu u2 h R U : Nat} (hR : 0 < R) (hv : v = lowv + R * (v2 + 18446744073709551616 * v1)) (hU : U = lowu + R * (u2 + 18446744073709551616 * h)) (hlow : lowu < R) (hu2 : u2 < 18446744073709551616) (hQ : Q * v ≤ U) : Q * v1 ≤ h := by
  have h1 : R * (Q * (18446744073709551616 * v1)) ≤ Q * v := by
    rw [hv]; have : Q * (R * (18446744073709551616 * v1)) ≤ Q * (lowv + R * (v2 + 18446744073709551616 * v1)) := by
      apply Nat.mul_le_mul_left; rw [Nat.mul_add R]; omega
    rw [Nat.mul_left_comm]; exact this
  have h2 : R * (Q * (18446744073709551616 * v1)) < R * (u2 + 18446744073709551616 * h + 1) := by rw [Nat.mul_add R _ 1]; omega
  have h3 := Nat.lt_of_mul_lt_mul_left h2; rw [Nat.mul_left_comm] at h3; generalize Q * v1 = t at *; omega
theorem Zkm {g v v1 v2 lowv lowu u2 h r R U : Nat} (hR : 0 < R) (hv : v = lowv + R * (v2 + 18446744073709551616 * v1)) (hU : U = lowu + R * (u2 + 18446744073709551616 * h)) (hlow : lowu < R) (hh : h = g * v1 + r) (hgt : r * 18446744073709551616 + u2 < g * v2) : U < g * v := by
  rcases Nat.lt_or_ge U (g * v) with hlt | hge
  · exact hlt
  · exfalso; have h1 : R * (g * (v2 + 18446744073709551616 * v1)) ≤ g * v := by
      have e : g * v = g * lowv + R * (g * (v2 + 18446744073709551616 * v1)) := by rw [hv, Nat.mul_add, Nat.mul_left_comm g R]
      omega
    have h2 : R * (g * (v2 + 18446744073709551616 * v1)) < R * (u2 + 18446744073709551616 * h + 1) := by rw [Nat.mul_add R _ 1]; omega
    have h3 := Nat.lt_of_mul_lt_mul_left h2; rw [Nat.mul_add g, Nat.mul_left_comm] at h3; generalize g * v1 = t at *; omega
theorem Znn {u : List Int} {v : Nat} (hd : Dig 18446744073709551616 u) (hv : okN v) (hl : u.length = (Zg 18446744073709551616 v).length + 1) (h2 : 2 ≤ (Zg 18446744073709551616 v).length) (hlt : val 18446744073709551616 u < v * 18446744073709551616) {z : Int × List Int}
    (f : Int → Option (Int × List Int)) (hf : ∀ g : Nat, val 18446744073709551616 u / v ≤ g → g < 18446744073709551616 → f (g : Int) = some z) :
    (bnd (idx u ((((Zg 18446744073709551616 v)).length : Int))) fun y14 =>
  bnd (chk .i64 (((((Zg 18446744073709551616 v)).length : Int)) - ((1 : Int)))) fun y20 =>
  bnd (idx ((Zg 18446744073709551616 v)) y20) fun y22 =>
  bnd (ifb (decide (y14 < y22))
  (bnd (idx u ((((Zg 18446744073709551616 v)).length : Int))) fun y121 =>
  bnd (chk .i64 (((((Zg 18446744073709551616 v)).length : Int)) - ((1 : Int)))) fun y127 =>
  bnd (idx u y127) fun y129 =>
  bnd (chk .i64 (((((Zg 18446744073709551616 v)).length : Int)) - ((1 : Int)))) fun y135 =>
  bnd (idx ((Zg 18446744073709551616 v)) y135) fun y137 =>
  bnd (Zpd y121 y129 y137) fun y143 =>
  bnd (bnd (Zna (fun s : Int × Int => match s with
  | (x183, x185) =>
  (bnd (chk .i64 (((((Zg 18446744073709551616 v)).length : Int)) - ((2 : Int)))) fun y201 =>
  bnd (idx ((Zg 18446744073709551616 v)) y201) fun y203 =>
  bnd (Zod x183 y203) fun y209 =>
  bnd (ifb (decide (y209.1 < x185))
  (some true)
  (ifb (y209.1 == x185)
  (bnd (chk .i64 (((((Zg 18446744073709551616 v)).length : Int)) - ((2 : Int)))) fun y270 =>
  bnd (idx u y270) fun y272 =>
  some (decide (y209.2 ≤ y272)))
  (some false)))
  (fun (x236 : Bool) =>
  (ifb (x236)
  (some (.inr x183))
  (bnd (chk .i64 (((((Zg 18446744073709551616 v)).length : Int)) - ((1 : Int)))) fun y251 =>
  bnd (idx ((Zg 18446744073709551616 v)) y251) fun y253 =>
  bnd (Zdc x185 y253 ((0 : Int))) fun y259 =>
  ifb (decide ((0 : Int) < y259.2))
  (some (.inr (IntKind.u64.wrap (x183 - ((1 : Int))))))
  (some (.inl ((IntKind.u64.wrap (x183 - ((1 : Int))), y259.1))))))))) ZBa ((y143.1, y143.2)))
  (fun (x189 : Int) =>
  (some x189)))
  (fun (x174 : Int) =>
  (some x174)))
  (some ((18446744073709551615 : Int)))) f) = some z := by
  have hdx := Zkb (B := 18446744073709551616) (by decide) v; have hvx := Zdb (B := 18446744073709551616) (by decide) v; have hcx := Zoh (B := 18446744073709551616) (by decide) v; unfold okN at hv; generalize Zg 18446744073709551616 v = a at *; obtain ⟨n, hn⟩ : ∃ n, a.length = n + 2 := ⟨a.length - 2, by omega⟩; have hu : u.length = n + 3 := by omega
  obtain ⟨v1, hv1⟩ := Int.eq_ofNat_of_zero_le (hdx.get (i := n + 1) (by omega)).1; obtain ⟨v2, hv2⟩ := Int.eq_ofNat_of_zero_le (hdx.get (i := n) (by omega)).1; obtain ⟨u0, hu0⟩ := Int.eq_ofNat_of_zero_le (hd.get (i := n + 2) (by omega)).1; obtain ⟨u1, hu1⟩ := Int.eq_ofNat_of_zero_le (hd.get (i := n + 1) (by omega)).1; obtain ⟨u2, hu2⟩ := Int.eq_ofNat_of_zero_le (hd.get (i := n) (by omega)).1; have b1 := (hdx.get (i := n + 1) (by omega)).2; have b2 := (hdx.get (i := n) (by omega)).2; have b3 := (hd.get (i := n + 2) (by omega)).2; have b4 := (hd.get (i := n + 1) (by omega)).2; have b5 := (hd.get (i := n) (by omega)).2; rw [hv1] at b1; rw [hv2] at b2; rw [hu0] at b3; rw [hu1] at b4; rw [hu2] at b5; have hv10 : v1 ≠ 0 := by
    have e : a.length - 1 = n + 1 := by omega
    have := hcx a[n + 1] (by rw [List.getLast?_eq_getElem?]; simp only [e]; exact List.getElem?_eq_getElem _); rw [hv1] at this; omega
  have tv := top2 (B := 18446744073709551616) hn; have tu := top3 (B := 18446744073709551616) hu; rw [hvx, hv1, hv2] at tv; rw [hu0, hu1, hu2] at tu; simp only [Int.toNat_natCast] at tv tu; have hR : 0 < 18446744073709551616 ^ n := Nat.pow_pos (by omega); have hlow := Z4c (hd.take n); rw [List.length_take, Nat.min_eq_left (by omega)] at hlow; have hv0 : 0 < v := by
    rcases Nat.eq_zero_or_pos v with h | h
    · subst h; omega
    · exact h
  obtain ⟨U, hU⟩ : ∃ U, U = val 18446744073709551616 u := ⟨_, rfl⟩; rw [← hU] at hf hlt tu; have hQv : U / v * v ≤ U := Nat.div_mul_le_self _ _; have hQB : U / v < 18446744073709551616 := by rw [Nat.div_lt_iff_lt_mul hv0, Nat.mul_comm]; exact hlt
  have hQlt : ∀ g, U < g * v → U / v < g := fun g h => (Nat.div_lt_iff_lt_mul hv0).2 h; generalize U / v = Q at *; have tu' : U = val 18446744073709551616 (u.take n) + 18446744073709551616 ^ n * (u2 + 18446744073709551616 * (u0 * 18446744073709551616 + u1)) := by
    rw [tu]; congr 2; omega
  have c0 : chk .i64 ((a.length : Int) - 1) = some ((n + 1 : Nat) : Int) := by rw [ZJa (by omega) (by omega)]; congr 1; omega
  have c00 : chk .i64 ((a.length : Int) - 2) = some ((n : Nat) : Int) := by rw [ZJa (by omega) (by omega)]; congr 1; omega
  have i0 : idx u (a.length : Int) = some (u0 : Int) := by rw [hn, Zua (by omega), hu0]
  have i1 : idx u ((n + 1 : Nat) : Int) = some (u1 : Int) := by rw [Zua (by omega), hu1]
  have i2 : idx u ((n : Nat) : Int) = some (u2 : Int) := by rw [Zua (by omega), hu2]
  have i3 : idx a ((n + 1 : Nat) : Int) = some (v1 : Int) := by rw [Zua (by omega), hv1]
  have i4 : idx a ((n : Nat) : Int) = some (v2 : Int) := by rw [Zua (by omega), hv2]
  simp only [i0, Zh, c0, i3, i1, c00, i4, i2]; by_cases hc : u0 < v1
  · have e1 : decide ((u0 : Int) < (v1 : Int)) = true := decide_eq_true (by omega); have e2 : Zpd (u0 : Int) (u1 : Int) (v1 : Int) = some ((((u0 * 18446744073709551616 + u1) / v1 : Nat) : Int), (((u0 * 18446744073709551616 + u1) % v1 : Nat) : Int)) := by
      unfold Zpd; rw [if_pos ⟨by omega, by omega, by omega, by omega, by omega⟩]; simp
    simp only [e1, Z1, e2, Zh]; obtain ⟨h, hh⟩ : ∃ h, h = u0 * 18446744073709551616 + u1 := ⟨_, rfl⟩; rw [← hh] at tu' ⊢; have hv1p : 0 < v1 := by omega
    have hg0 : h / v1 < 18446744073709551616 := by
      rw [Nat.div_lt_iff_lt_mul hv1p, hh]; have : (u0 + 1) * 18446744073709551616 ≤ v1 * 18446744073709551616 := Nat.mul_le_mul_right _ hc; rw [Nat.mul_comm 18446744073709551616]; omega
    rw [Z0a, Z0a]; refine Zeb (fun s : Int × Int => ∃ g r : Nat, s = ((g : Int), (r : Int)) ∧ h = g * v1 + r ∧ r < 18446744073709551616 ∧ Q ≤ g ∧ g < 18446744073709551616) (fun s => s.1.toNat)
      (fun r : Int => ∃ g : Nat, r = (g : Int) ∧ Q ≤ g ∧ g < 18446744073709551616)
      ⟨h / v1, h % v1, rfl, by rw [Nat.mul_comm]; exact (Nat.div_add_mod _ _).symm, Nat.lt_trans (Nat.mod_lt _ hv1p) (by omega), (Nat.le_div_iff_mul_le hv1p).2 (ZYn hR tv tu' hlow (by omega) hQv), hg0⟩
      (ZZa (by simp only [Int.toNat_natCast]; omega)) ?_ ?_
    · rintro _ ⟨g, r, rfl, e, hr, hQ, hg⟩; have m1 := Zsi (x := g) (y := v2) hg (by omega); simp only [m1, Zh]; have cond : ifb (decide (((g * v2 / 18446744073709551616 : Nat) : Int) < (r : Int))) (some true) (ifb (((g * v2 / 18446744073709551616 : Nat) : Int) == (r : Int)) (some (decide (((g * v2 % 18446744073709551616 : Nat) : Int) ≤ (u2 : Int)))) (some false)) = some (decide (g * v2 ≤ r * 18446744073709551616 + u2)) := by
        generalize g * v2 = t; by_cases q1 : t / 18446744073709551616 < r
        · rw [decide_eq_true (by omega), Z1, decide_eq_true (by omega)]
        · rw [decide_eq_false (by omega), ZY]; by_cases q2 : t / 18446744073709551616 = r
          · have : (((t / 18446744073709551616 : Nat) : Int) == (r : Int)) = true := by simp; omega
            rw [this, Z1]; exact congrArg some (decide_eq_decide.2 (by omega))
          · have : (((t / 18446744073709551616 : Nat) : Int) == (r : Int)) = false := by simp; omega
            rw [this, ZY, decide_eq_false (by omega)]
      rw [cond, Zh]; by_cases hcd : g * v2 ≤ r * 18446744073709551616 + u2
      · right; rw [decide_eq_true hcd, Z1]; exact ⟨_, rfl, g, rfl, hQ, hg⟩
      · rw [decide_eq_false hcd, ZY]; have hdown := Zkm hR tv tu' hlow e (by omega); have hQg : Q < g := hQlt g hdown; have a1 := Z9f (x := (r : Int)) (y := (v1 : Int)) (c := 0) (by omega) (by omega) (by omega) (by omega); simp only [a1, Zh]; have ew : IntKind.u64.wrap ((g : Int) - 1) = ((g - 1 : Nat) : Int) := by rw [wrap_u64]; omega
        rw [ew]; by_cases ho : 18446744073709551616 ≤ r + v1
        · right; rw [decide_eq_true (by omega), Z1]; exact ⟨_, rfl, g - 1, rfl, by omega, by omega⟩
        · left; rw [decide_eq_false (by omega), ZY]; have er : ((r : Int) + v1 + 0) % 18446744073709551616 = ((r + v1 : Nat) : Int) := by omega
          rw [er]; refine ⟨_, rfl, ⟨g - 1, r + v1, rfl, ?_, by omega, by omega, by omega⟩, by simp; omega⟩; obtain ⟨g', rfl⟩ : ∃ g', g = g' + 1 := ⟨g - 1, by omega⟩; rw [e, Nat.succ_mul]; simp; omega
    · rintro _ ⟨g, rfl, h1, h2⟩; simp only [Zh]; exact hf g h1 h2
  · have e1 : decide ((u0 : Int) < (v1 : Int)) = false := decide_eq_false (by omega); simp only [e1, ZY, Zh]; exact hf 18446744073709551615 (by omega) (by omega)
theorem Zlo {u : List Int} {v : Nat} (hd : Dig 18446744073709551616 u) (hv : okN v) (hl : u.length = (Zg 18446744073709551616 v).length + 1) (h2 : 2 ≤ (Zg 18446744073709551616 v).length) (hlt : val 18446744073709551616 u < v * 18446744073709551616) :
    ZDf u v = some (((val 18446744073709551616 u / v : Nat) : Int), Z1b u.length (val 18446744073709551616 u % v)) := by
  unfold ZDf; refine Znn hd hv hl h2 hlt _ fun g hg hg2 => ?_; have hv0 : 0 < v := by
    rcases Nat.eq_zero_or_pos v with h | h
    · subst h; omega
    · exact h
  obtain ⟨U, hU⟩ : ∃ U, U = val 18446744073709551616 u := ⟨_, rfl⟩; rw [← hU] at hg ⊢; have hdm := Nat.div_add_mod U v; have hQ1 : ∀ g, v * g ≤ U → g ≤ U / v := fun g h => (Nat.le_div_iff_mul_le hv0).2 (by rw [Nat.mul_comm]; exact h); have hQ2 : ∀ g, U < v * g → U / v < g := fun g h => (Nat.div_lt_iff_lt_mul hv0).2 (by rw [Nat.mul_comm]; exact h); generalize U / v = Q at *; generalize U % v = M at *; rw [Z0a]; refine Zeb (fun s : (List Int) × Int => ∃ g : Nat, s = (u, (g : Int)) ∧ Q ≤ g ∧ g < 18446744073709551616) (fun s => s.2.toNat) (fun r : (List Int) × Int => r = (Z1b u.length (M), ((Q : Nat) : Int)))
    ⟨g, rfl, hg, hg2⟩ (ZZa (by simp only [Int.toNat_natCast]; omega)) ?_ ?_
  · rintro _ ⟨g, rfl, hg, hg2⟩; have ht : ZQe u v (g : Int) = if U < v * g then some (false, u) else some (true, Z1b u.length (U - v * g)) := by
      unfold ZQe; rw [if_pos ⟨hv, hl⟩, ← hU]; simp
    by_cases hc : U < v * g
    · left; rw [if_pos hc] at ht; have hQg : Q < g := hQ2 g hc; have ew : IntKind.u64.wrap ((g : Int) - 1) = ((g - 1 : Nat) : Int) := by rw [wrap_u64]; omega
      simp only [ht, Zh, Bool.not_false, Z1, ew]; exact ⟨_, rfl, ⟨g - 1, rfl, by omega, by omega⟩, by simp; omega⟩
    · right; rw [if_neg hc] at ht; have hQg : g ≤ Q := hQ1 g (by omega); have e : g = Q := by omega
      simp only [ht, Zh, Bool.not_true, ZY]; refine ⟨_, rfl, ?_⟩; subst e; congr 2; omega
  · rintro _ rfl; simp only [Zh]
theorem ZYl {u : List Int} {v : Nat} {z : Int × List Int} (hd : Dig 18446744073709551616 u) (h : Zhf u v = some z) : ZDf u v = some z := by
  unfold Zhf at h; split at h
  · rename_i hh; rw [Zlo hd hh.1 hh.2.1 hh.2.2.1 hh.2.2.2, ← h]
  · cases h
noncomputable def ZWf (a : Nat) (b : Nat) : Option (Nat × Nat) :=
 bnd (Zad a b) fun y13 =>
 ifb (decide (y13 < (0 : Int)))
 (some (((0 : Nat), a)))
 (ifb (((((Zg 18446744073709551616 b)).length : Int)) == ((1 : Int)))
 (bnd (idx ((Zg 18446744073709551616 b)) ((0 : Int))) fun y33 =>
 bnd (Zsd a y33) fun y41 =>
 bnd (ZWb y41.2) fun y71 =>
 some ((y41.1, y71)))
 (bnd (chk .i64 (((((Zg 18446744073709551616 b)).length : Int)) - ((1 : Int)))) fun y89 =>
 bnd (idx ((Zg 18446744073709551616 b)) y89) fun y91 =>
 bnd (Zxd y91) fun y99 =>
 bnd (Zic b y99) fun y119 =>
 bnd (Zic a y99) fun y141 =>
 bnd (Zub 8 (([] : (List Int)) ++ ((Zg 18446744073709551616 y141)))) fun y150 =>
 bnd (Zub 8 ((([] : (List Int)) ++ ((Zg 18446744073709551616 y141))) ++ [(0 : Int)])) fun y162 =>
 bnd (chk .i64 ((((((([] : (List Int)) ++ ((Zg 18446744073709551616 y141))) ++ [(0 : Int)])).length : Int)) - ((((Zg 18446744073709551616 y119)).length : Int)))) fun y197 =>
 bnd (mk 8 y197 y197) fun y199 =>
 bnd (chk .i64 (((((List.replicate (y197).toNat ((0 : Int)))).length : Int)) - ((1 : Int)))) fun y219 =>
 bnd (bnd (Zna (fun s : (List Int) × (List Int) × Int => match s with
 | (x307, x315, x323) =>
 (ifb (decide ((0 : Int) ≤ x323))
 (bnd (chk .i64 (x323 + ((((Zg 18446744073709551616 y119)).length : Int)))) fun y358 =>
 bnd (chk .i64 (y358 + ((1 : Int)))) fun y360 =>
 bnd (cutP x307 x323 y360) fun y362 =>
 bnd (Zhf y362 y119) fun y365 =>
 bnd (idx x315 x323) fun y388 =>
 bnd (chk .i64 (x323 - ((1 : Int)))) fun y428 =>
 some (.inl (((List.take (x323).toNat x307 ++ y365.2 ++ List.drop (y360).toNat x307), (x315.set (x323).toNat y365.1), y428))))
 (some (.inr ((x307, x315)))))) ZBa ((((([] : (List Int)) ++ ((Zg 18446744073709551616 y141))) ++ [(0 : Int)]), (List.replicate (y197).toNat ((0 : Int))), y219)))
 (fun (p : (List Int) × (List Int)) => match p with
 | (x327, x335) =>
 (some ((x327, x335)))))
 (fun (p : (List Int) × (List Int)) => match p with
 | (x222, x230) =>
 (bnd (Ztb x230) fun y250 =>
 bnd (Ztb x222) fun y262 =>
 bnd (ZZe y262 y99) fun y271 =>
 some ((y250, y271))))))
theorem ZBh {x : Int} {n : Nat} (h : x = (n : Int)) (hn : n ≤ 9223372036854775807) : chk .i64 x = some (n : Int) := by rw [h]; exact Zgb hn
theorem Z7m {A V U U' q Qd P B seg low : Nat} (h : U + V * (P * B * q) = A) (e1 : U = low + P * seg) (e2 : U' = low + P * (seg % V)) (e3 : Qd = seg / V) : U' + V * (P * (Qd + B * q)) = A := by
  have hd := Nat.div_add_mod seg V; rw [← e3] at hd; have h2 : P * seg = P * (V * Qd + seg % V) := by rw [hd]
  subst e1 e2; rw [h2] at h; grind
theorem Zyl {n m : Nat} (hn : okN n) (hm : okN m) (h0 : m ≠ 0) : ZWf n m = some (n / m, n % m) := by
  unfold ZWf; have hcmp : ∀ n m, Zad n m = some (Zhb n m) := fun _ _ => rfl; rw [hcmp, Zh]; by_cases hlt : n < m
  · have : Zhb n m = -1 := by unfold Zhb; rw [if_pos hlt]
    rw [this, show decide ((-1 : Int) < 0) = true from rfl, Z1, Nat.div_eq_of_lt hlt, Nat.mod_eq_of_lt hlt]
  have hc : decide (Zhb n m < 0) = false := by unfold Zhb; rw [if_neg hlt]; split <;> rfl
  rw [hc, ZY]; have hne : (Zg 18446744073709551616 m) ≠ [] := (Zmc (by decide)).2 h0; have hpos := List.length_pos_iff.2 hne; by_cases h1 : (Zg 18446744073709551616 m).length = 1
  · have e1 : (((Zg 18446744073709551616 m).length : Int) == 1) = true := by simp; omega
    rw [e1, Z1]; have hmB : m < 18446744073709551616 := by have := Zqc (B := 18446744073709551616) (by decide) m; rw [h1] at this; simpa using this
    rw [Zji (by decide) h0 hmB, Zh]; have : Zsd n (m : Int) = some (n / m, ((n % m : Nat) : Int)) := by unfold Zsd; rw [if_pos ⟨hn, by omega⟩]; simp
    rw [this, Zh]; show bnd (ZWb ((n % m : Nat) : Int)) _ = _; unfold ZWb; rw [Zh]; rfl
  have e1 : (((Zg 18446744073709551616 m).length : Int) == 1) = false := by simp; omega
  rw [e1, ZY]; obtain ⟨k, hk⟩ : ∃ k, (Zg 18446744073709551616 m).length = k + 2 := ⟨(Zg 18446744073709551616 m).length - 2, by omega⟩; have c1 : chk .i64 (((Zg 18446744073709551616 m).length : Int) - 1) = some ((k + 1 : Nat) : Int) := by
    unfold okN at hm; rw [ZJa (by omega) (by omega)]; congr 1; omega
  rw [c1, Zh]; have hdm := Zkb (B := 18446744073709551616) (by decide) m; have hvm := Zdb (B := 18446744073709551616) (by decide) m; have hcm := Zoh (B := 18446744073709551616) (by decide) m; have hmlt := Zqc (B := 18446744073709551616) (by decide) m; have hmge := ZVf (B := 18446744073709551616) (by decide) h0; rw [hk] at hmlt hmge; obtain ⟨top, htop⟩ := Int.eq_ofNat_of_zero_le (hdm.get (i := k + 1) (by omega)).1; have htopB := (hdm.get (i := k + 1) (by omega)).2; rw [htop] at htopB; have hi : idx (Zg 18446744073709551616 m) ((k + 1 : Nat) : Int) = some (top : Int) := by rw [Zua (by omega), htop]
  rw [hi, Zh]; have htop0 : top ≠ 0 := by
    have e : (Zg 18446744073709551616 m).length - 1 = k + 1 := by omega
    have := hcm (Zg 18446744073709551616 m)[k + 1] (by rw [List.getLast?_eq_getElem?]; simp only [e]; exact List.getElem?_eq_getElem _); rw [htop] at this; omega
  obtain ⟨t, ht⟩ := Zse htop0; have hbl : bl top ≤ 64 := Zac (by omega); have htl := ZUd top; have hz : Zxd (top : Int) = some ((64 - bl top : Nat) : Int) := by
    unfold Zxd; rw [if_pos ⟨by omega, by omega⟩]; congr 1; simp; omega
  rw [hz, Zh]; obtain ⟨s, hs⟩ : ∃ s, s = 64 - bl top := ⟨_, rfl⟩; rw [← hs]; have hp : 0 < 2 ^ s := Nat.pow_pos (by omega); have hVlt : m * 2 ^ s < 18446744073709551616 ^ (k + 2) := by
    have h3 := top2 (B := 18446744073709551616) (a := Zg 18446744073709551616 m) (n := k) hk; rw [hvm, htop] at h3; simp only [Int.toNat_natCast] at h3; have h4 := Z4c (hdm.take (k + 1)); rw [List.length_take, Nat.min_eq_left (by omega)] at h4; have h5 := ZXc 18446744073709551616 (Zg 18446744073709551616 m) (k + 1) (by omega); rw [hvm, Zgc (by omega), htop, List.drop_of_length_le (by omega)] at h5; simp only [val, Int.toNat_natCast, Nat.mul_zero, Nat.add_zero] at h5; have h6 : m < 18446744073709551616 ^ (k + 1) * (top + 1) := by rw [Nat.mul_add]; omega
    have h7 : (top + 1) * 2 ^ s ≤ 18446744073709551616 := by
      have := Nat.mul_le_mul_right (2 ^ s) (show top + 1 ≤ 2 ^ bl top from htl); rw [← Nat.pow_add, show bl top + s = 64 by omega] at this; exact this
    have h8 : m * 2 ^ s < 18446744073709551616 ^ (k + 1) * (top + 1) * 2 ^ s := Nat.mul_lt_mul_of_pos_right h6 hp; have h9 : 18446744073709551616 ^ (k + 1) * ((top + 1) * 2 ^ s) ≤ 18446744073709551616 ^ (k + 1) * 18446744073709551616 := Nat.mul_le_mul_left _ h7; rw [Nat.pow_succ _ (k + 1)]; rw [Nat.mul_assoc] at h8; omega
  obtain ⟨V, hV⟩ : ∃ V, V = m * 2 ^ s := ⟨_, rfl⟩; rw [← hV] at hVlt; have hmV : m ≤ V := by rw [hV]; exact Nat.le_mul_of_pos_right _ hp
  have hVl : (Zg 18446744073709551616 V).length = k + 2 := by
    have h3 := Zhe (B := 18446744073709551616) (by decide) hVlt; have h4 := ZFc (B := 18446744073709551616) (by decide) hmV; omega
  have hVok : okN V := by unfold okN at hm ⊢; omega
  have hV0 : 0 < V := by omega
  obtain ⟨A, hA⟩ : ∃ A, A = n * 2 ^ s := ⟨_, rfl⟩; have hAlt : A < 18446744073709551616 ^ ((Zg 18446744073709551616 n).length + 1) := by
    have h3 := Zqc (B := 18446744073709551616) (by decide) n; have h4 : 2 ^ s ≤ 2 ^ 64 := Nat.pow_le_pow_right (by omega) (by omega); rw [hA, Nat.pow_succ]; exact Nat.lt_of_le_of_lt (Nat.mul_le_mul_left _ h4) (Nat.mul_lt_mul_of_pos_right h3 (by decide))
  have hAl := Zhe (B := 18446744073709551616) (by decide) hAlt; have hVA : V ≤ A := by rw [hV, hA]; exact Nat.mul_le_mul_right _ (by omega)
  have hAV := ZFc (B := 18446744073709551616) (by decide) hVA; have l1 : Zic m (s : Int) = some V := by unfold Zic; rw [if_pos ⟨hm, by omega, by omega⟩, hV]; simp
  have l2 : Zic n (s : Int) = some A := by unfold Zic; rw [if_pos ⟨hn, by omega, by omega⟩, hA]; simp
  unfold okN at hn hm; rw [l1, Zh, l2, Zh]; have hdA := Zkb (B := 18446744073709551616) (by decide) A; have hvA := Zdb (B := 18446744073709551616) (by decide) A; rw [hVl] at hAV ⊢; generalize Zg 18446744073709551616 A = w at *; have r1 : Zub 8 (([] : List Int) ++ w) = some () := by unfold Zub; rw [if_pos (by simp; omega)]
  have r2 : Zub 8 ((([] : List Int) ++ w) ++ [(0 : Int)]) = some () := by unfold Zub; rw [if_pos (by simp; omega)]
  rw [r1, Zh, r2, Zh, List.nil_append]; obtain ⟨u, hu⟩ : ∃ u, u = w ++ [(0 : Int)] := ⟨_, rfl⟩; have hul : u.length = w.length + 1 := by rw [hu]; simp
  have hud : Dig 18446744073709551616 u := by rw [hu]; exact Dig.append.2 ⟨hdA, Dig.cons.2 ⟨by omega, Dig.nil⟩⟩
  have huv : val 18446744073709551616 u = A := by rw [hu, ZDc, hvA]; simp [val]
  rw [← hu]; obtain ⟨j0, hj0⟩ : ∃ j0, w.length + 1 = k + 2 + j0 + 1 := ⟨w.length - (k + 2), by omega⟩; have c2 : chk .i64 ((u.length : Int) - ((k + 2 : Nat) : Int)) = some ((j0 + 1 : Nat) : Int) := ZBh (by omega) (by omega); obtain ⟨x, hx⟩ := ZGc (b := 8) (l := ((j0 + 1 : Nat) : Int)) (c := ((j0 + 1 : Nat) : Int)) (by omega) (by omega) (by omega) (by omega); have c3 : chk .i64 ((((List.replicate (j0 + 1) (0 : Int)).length : Nat) : Int) - 1) = some ((j0 : Nat) : Int) := by
    rw [List.length_replicate]; exact ZBh (by omega) (by omega)
  rw [c2, Zh, hx, Zh, Int.toNat_natCast, c3, Zh, Z0a]; refine Zeb (fun st : (List Int) × (List Int) × Int => ∃ j : Nat, st.2.2 = (j : Int) - 1 ∧ j ≤ j0 + 1 ∧ st.1.length = u.length ∧ Dig 18446744073709551616 st.1 ∧ st.2.1.length = j0 + 1 ∧
    val 18446744073709551616 (st.1.drop j) < V ∧ val 18446744073709551616 st.1 + V * (18446744073709551616 ^ j * val 18446744073709551616 (st.2.1.drop j)) = A) (fun st => (st.2.2 + 1).toNat)
    (fun r : (List Int) × (List Int) => Dig 18446744073709551616 r.1 ∧ val 18446744073709551616 r.1 < V ∧ val 18446744073709551616 r.1 + V * val 18446744073709551616 r.2 = A)
    ⟨j0 + 1, by simp, by omega, rfl, hud, by simp, ?_, by simp [val, huv]⟩ (ZZa (by simp; omega)) ?_ ?_
  · -- the greatest words are below the divisor
    have h3 := ZXc 18446744073709551616 u (j0 + 1) (by omega); have h4 : u.drop (j0 + 1) = w.drop (j0 + 1) ++ [0] := by rw [hu, List.drop_append_of_le_length (by omega)]
    have h5 := Z4c (hdA.drop (j0 + 1)); rw [List.length_drop, show w.length - (j0 + 1) = k + 1 by omega] at h5; rw [h4, ZDc]; simp [val]; have : 18446744073709551616 ^ (k + 2 - 1) = 18446744073709551616 ^ (k + 1) := rfl; omega
  · rintro ⟨o, q, i⟩ ⟨j, e, hj, hol, hod, hql, hltV, hinv⟩; simp only at e hol hod hql hltV hinv ⊢; subst e; by_cases hj0' : 0 < j
    · left; obtain ⟨i, rfl⟩ : ∃ i, j = i + 1 := ⟨j - 1, by omega⟩; have ei : ((i + 1 : Nat) : Int) - 1 = (i : Int) := by omega
      rw [ei, decide_eq_true (by omega), Z1]; have d1 : chk .i64 ((i : Int) + ((k + 2 : Nat) : Int)) = some ((i + k + 2 : Nat) : Int) := ZBh (by omega) (by omega); have d2 : chk .i64 (((i + k + 2 : Nat) : Int) + 1) = some ((i + k + 3 : Nat) : Int) := ZBh (by omega) (by omega); obtain ⟨seg, hseg⟩ : ∃ seg, seg = (o.take (i + k + 3)).drop i := ⟨_, rfl⟩; have hsl : seg.length = k + 3 := by rw [hseg, List.length_drop, List.length_take, Nat.min_eq_left (by omega)]; omega
      have d3 : cutP o (i : Int) ((i + k + 3 : Nat) : Int) = some seg := by
        unfold cutP; rw [if_pos ⟨by omega, by omega, by omega⟩, hseg]; rfl
      have hsd : Dig 18446744073709551616 seg := by rw [hseg]; exact (hod.take _).drop _
      have hdropi : val 18446744073709551616 (o.drop i) < V * 18446744073709551616 := by
        rw [Zgc (by omega)]; have := (hod.get (i := i) (by omega)).2; have h3 : 18446744073709551616 * (val 18446744073709551616 (o.drop (i + 1)) + 1) ≤ 18446744073709551616 * V := Nat.mul_le_mul_left _ hltV; rw [Nat.mul_add] at h3; rw [Nat.mul_comm V]; omega
      have hsplit : o.drop i = seg ++ o.drop (i + k + 3) := by
        have h3 := List.take_append_drop (i + k + 3) o; have h4 : o.drop i = ((o.take (i + k + 3)) ++ o.drop (i + k + 3)).drop i := by rw [h3]
        rw [h4, List.drop_append_of_le_length (by rw [List.length_take]; omega), hseg]
      have hhigh : val 18446744073709551616 (o.drop (i + k + 3)) = 0 := by
        rcases Nat.eq_zero_or_pos (val 18446744073709551616 (o.drop (i + k + 3))) with h | h
        · exact h
        · exfalso; rw [hsplit, ZDc, hsl] at hdropi; have h3 : 18446744073709551616 ^ (k + 3) * 1 ≤ 18446744073709551616 ^ (k + 3) * val 18446744073709551616 (o.drop (i + k + 3)) := Nat.mul_le_mul_left _ h; have h4 : V * 18446744073709551616 ≤ 18446744073709551616 ^ (k + 2) * 18446744073709551616 := Nat.mul_le_mul_right _ (by omega); have h5 : 18446744073709551616 ^ (k + 3) = 18446744073709551616 ^ (k + 2) * 18446744073709551616 := Nat.pow_succ ..; generalize 18446744073709551616 ^ (k + 3) = g3 at *; generalize 18446744073709551616 ^ (k + 2) = g2 at *; omega
      have hsv : val 18446744073709551616 (o.drop i) = val 18446744073709551616 seg := by rw [hsplit, ZDc, hhigh]; simp
      have d4 : Zhf seg V = some (((val 18446744073709551616 seg / V : Nat) : Int), Z1b seg.length (val 18446744073709551616 seg % V)) := by
        unfold Zhf; rw [if_pos ⟨hVok, by omega, by omega, by omega⟩]
      have hiq : i < q.length := by omega
      have d5 : chk .i64 ((i : Int) - 1) = some ((i : Int) - 1) := ZJa (by omega) (by omega); simp only [d1, Zh, d2, d3, d4, Zua hiq, d5, Int.toNat_natCast]; obtain ⟨r, hr⟩ : ∃ r, r = Z1b seg.length (val 18446744073709551616 seg % V) := ⟨_, rfl⟩; have hrl : r.length = k + 3 := by rw [hr, ZRk, hsl]
      have hrd : Dig 18446744073709551616 r := by rw [hr]; exact Zok _ _
      have hmodlt := Nat.mod_lt (val 18446744073709551616 seg) hV0; have hrv : val 18446744073709551616 r = val 18446744073709551616 seg % V := by
        rw [hr, hsl]; apply ZOk; have : 18446744073709551616 ^ (k + 2) ≤ 18446744073709551616 ^ (k + 3) := Nat.pow_le_pow_right (by omega) (by omega); omega
      rw [← hr]; have htk : (o.take i).length = i := by rw [List.length_take, Nat.min_eq_left (by omega)]
      have hnew : (o.take i ++ r ++ o.drop (i + k + 3)).drop i = r ++ o.drop (i + k + 3) := by
        rw [List.append_assoc, List.drop_append_of_le_length (by omega), List.drop_of_length_le (by omega), List.nil_append]
      have hnewv : val 18446744073709551616 ((o.take i ++ r ++ o.drop (i + k + 3)).drop i) = val 18446744073709551616 seg % V := by
        rw [hnew, ZDc, hhigh, hrv]; simp
      refine ⟨_, rfl, ⟨i, rfl, by omega, ?_, ?_, by simp [hql], by rw [hnewv]; exact hmodlt, ?_⟩, by simp⟩
      · rw [List.length_append, List.length_append, htk, hrl, List.length_drop]; omega
      · exact Dig.append.2 ⟨Dig.append.2 ⟨hod.take _, hrd⟩, hod.drop _⟩
      · rw [Zgc (by simp; omega), List.getElem_set_self, List.drop_set_of_lt (by omega)]; simp only [Int.toNat_natCast]; rw [Nat.pow_succ] at hinv; refine Z7m (seg := val 18446744073709551616 seg) (low := val 18446744073709551616 (o.take i)) hinv ?_ ?_ rfl
        · rw [ZXc 18446744073709551616 o i (by omega), hsv]
        · have h3 := ZXc 18446744073709551616 (o.take i ++ r ++ o.drop (i + k + 3)) i (by rw [List.length_append, List.length_append, htk]; omega); rw [hnewv] at h3; have h4 : (o.take i ++ r ++ o.drop (i + k + 3)).take i = o.take i := by
            rw [List.append_assoc, List.take_append_of_le_length (by omega), List.take_of_length_le (by omega)]
          rw [h3, h4]
    · right; have hjz : j = 0 := by omega
      subst hjz; rw [decide_eq_false (by simp), ZY]; simp only [List.drop_zero, Nat.pow_zero, Nat.one_mul] at hltV hinv; exact ⟨_, rfl, hod, hltV, hinv⟩
  · rintro ⟨o, q⟩ ⟨hod, hltV, hinv⟩; simp only at hod hltV hinv; rw [Zh]; have f1 : Ztb q = some (val 18446744073709551616 q) := rfl; have f2 : Ztb o = some (val 18446744073709551616 o) := rfl; simp only [f1, f2, Zh]; have hrok : okN (val 18446744073709551616 o) := by
      have := ZFc (B := 18446744073709551616) (by decide) (Nat.le_of_lt hltV); unfold okN; omega
    have f3 : ZZe (val 18446744073709551616 o) (s : Int) = some (val 18446744073709551616 o / 2 ^ s) := by
      unfold ZZe; rw [if_pos ⟨hrok, by omega⟩]; simp
    rw [f3, Zh]; have g1 : n / m = val 18446744073709551616 q := by
      have h3 := Nat.mul_div_mul_right n m hp; rw [← hA, ← hV, ← hinv, Nat.add_comm, Nat.mul_add_div hV0, Nat.div_eq_of_lt hltV, Nat.add_zero] at h3; exact h3.symm
    have g2 : n % m * 2 ^ s = val 18446744073709551616 o := by
      have h3 := Nat.mul_mod_mul_right (2 ^ s) n m; rw [← hA, ← hV, ← hinv, Nat.add_comm, Nat.mul_add_mod, Nat.mod_eq_of_lt hltV] at h3; exact h3.symm
    rw [g1, ← g2, Nat.mul_div_cancel _ hp]
theorem Zvo {n m : Nat} {z : Nat × Nat} (h : ZSc n m = some z) : ZWf n m = some z := by
  unfold ZSc at h; split at h
  · rename_i hh; rw [Zyl hh.1 hh.2.1 hh.2.2, ← h]
  · cases h
noncomputable def ZFf (a : Nat) (b : Nat) : Option (Nat) :=
 bnd (bnd (Zna (fun s : Nat × Nat => match s with
 | (x27, x32) =>
 (ifb (decide ((0 : Int) < (((Zg 18446744073709551616 x32)).length : Int)))
 (bnd (ifb (decide ((((Zg 18446744073709551616 x27)).length : Int) ≤ (1 : Int)))
 (some (decide ((((Zg 18446744073709551616 x32)).length : Int) ≤ (1 : Int))))
 (some false))
 (fun (x63 : Bool) =>
 (ifb (x63)
 (bnd (ZUe x27 x32) fun y74 =>
 bnd (ZWb y74) fun y81 =>
 some (.inr ((.inl y81))))
 (bnd (ZSc x27 x32) fun y104 =>
 some (.inl ((x32, y104.2)))))))
 (some (.inr ((.inr x27)))))) ZBa ((a, b)))
 (fun (p : (Nat) ⊕ (Nat)) => match p with
 | .inl x52 =>
 (some ((.inr x52)))
 | .inr x39 =>
 (some ((.inl x39)))))
 (fun (p : (Nat) ⊕ (Nat)) => match p with
 | .inl x12 =>
 (some x12)
 | .inr x26 =>
 (some x26))
noncomputable def Zvh (s : Bool) (n : Nat) : Option (Int) :=
 bnd (ifb (s)
 (some ((decide ((0 : Int) < (((Zg 18446744073709551616 n)).length : Int)), n)))
 (some ((false, n))))
 (fun (x11 : (Bool × Nat)) =>
 (bnd (Zyd x11.1 x11.2) fun y23 =>
 some y23))
theorem ZGd {n m : Nat} (h : n ≤ m) : bl n ≤ bl m := Zac (Nat.lt_of_le_of_lt h (ZUd m))
theorem Z9k {a b : Nat} (h : b ≤ a) (h0 : b ≠ 0) : bl (a % b) + 1 ≤ bl a := by
  have ha : a ≠ 0 := by omega
  obtain ⟨k, hk⟩ := Zse ha; have h1 := (ZWd ha).1 hk; have h2 : a % b < b := Nat.mod_lt _ (by omega); have h3 : a % b + b ≤ a := by
    have h4 := Nat.div_add_mod a b; have h5 : 1 ≤ a / b := (Nat.le_div_iff_mul_le (by omega)).2 (by omega); have h6 : b * 1 ≤ b * (a / b) := Nat.mul_le_mul_left _ h5; omega
  have h4 : a % b < 2 ^ k := by
    rw [Nat.pow_succ] at h1; omega
  have := Zac h4; omega
theorem ZFh {n m : Nat} (h : n ≤ m) (hm : okN m) : okN n := by
  have := ZFc (B := 18446744073709551616) (by decide) h; unfold okN at *; omega
theorem Zij {n : Nat} (h : okN n) : bl n ≤ 4398046511104 := by
  unfold okN at h; have h1 := Zqc (B := 18446744073709551616) (by decide) n; have h2 : 18446744073709551616 ^ (Zg 18446744073709551616 n).length = 2 ^ (64 * (Zg 18446744073709551616 n).length) := by rw [Nat.pow_mul]
  rw [h2] at h1; have := Zac h1; omega
theorem Zbl {n : Nat} (h : (Zg 18446744073709551616 n).length ≤ 1) : n < 18446744073709551616 := by
  have h1 := Zqc (B := 18446744073709551616) (by decide) n; have h2 : 18446744073709551616 ^ (Zg 18446744073709551616 n).length ≤ 18446744073709551616 ^ 1 := Nat.pow_le_pow_right (by omega) h; rw [Nat.pow_one] at h2; omega
theorem gcd_eq {n m : Nat} (hn : okN n) (hm : okN m) : ZFf n m = some (Nat.gcd n m) := by
  unfold ZFf; rw [Z0a]; refine Zeb (fun s : Nat × Nat => okN s.1 ∧ okN s.2 ∧ Nat.gcd s.1 s.2 = Nat.gcd n m) (fun s => 2 * (bl s.1 + bl s.2) + if s.1 < s.2 then 1 else 0) (fun r : Nat ⊕ Nat => r = .inl (Nat.gcd n m) ∨ r = .inr (Nat.gcd n m)) ⟨hn, hm, rfl⟩
    (ZZa (by have := Zij hn; have := Zij hm; simp only; split <;> omega)) ?_ ?_
  · rintro ⟨a, b⟩ ⟨ha, hb, hg⟩; simp only at ha hb hg ⊢; by_cases h0 : b = 0
    · right; subst h0; rw [ZVa]; refine ⟨_, rfl, .inr ?_⟩; rw [← hg, Nat.gcd_zero_right]
    · have hpos := List.length_pos_iff.2 ((Zmc (n := b) (B := 18446744073709551616) (by decide)).2 h0); rw [decide_eq_true (show (0 : Int) < ((Zg 18446744073709551616 b).length : Int) by omega), Z1]; have cond : ifb (decide (((Zg 18446744073709551616 a).length : Int) ≤ 1)) (some (decide (((Zg 18446744073709551616 b).length : Int) ≤ 1))) (some false) = some (decide ((Zg 18446744073709551616 a).length ≤ 1 ∧ (Zg 18446744073709551616 b).length ≤ 1)) := by
        by_cases q : (Zg 18446744073709551616 a).length ≤ 1
        · rw [decide_eq_true (by omega), Z1]; exact congrArg some (decide_eq_decide.2 (by omega))
        · rw [decide_eq_false (by omega), ZY, decide_eq_false (by omega)]
      rw [cond, Zh]; by_cases hc : (Zg 18446744073709551616 a).length ≤ 1 ∧ (Zg 18446744073709551616 b).length ≤ 1
      · right; rw [decide_eq_true hc, Z1]; have h1 : ZUe a b = some ((Nat.gcd a b : Nat) : Int) := by unfold ZUe; rw [if_pos ⟨Zbl hc.1, Zbl hc.2, h0⟩]
        rw [h1, Zh]; have h2 : ZWb ((Nat.gcd a b : Nat) : Int) = some (Nat.gcd a b) := rfl; rw [h2, Zh, hg]; exact ⟨_, rfl, .inl rfl⟩
      · left; rw [decide_eq_false hc, ZY]; have h1 : ZSc a b = some (a / b, a % b) := by unfold ZSc; rw [if_pos ⟨ha, hb, h0⟩]
        rw [h1, Zh]; have hlt : a % b < b := Nat.mod_lt _ (by omega); refine ⟨_, rfl, ⟨hb, ZFh (Nat.le_of_lt hlt) hb, ?_⟩, ?_⟩
        · rw [← hg]; simp only; rw [Nat.gcd_comm b, ← Nat.gcd_rec, Nat.gcd_comm]
        · simp only; rw [if_neg (by omega)]; by_cases hab : a < b
          · rw [if_pos hab, Nat.mod_eq_of_lt hab]; omega
          · have := Z9k (a := a) (b := b) (by omega) h0; rw [if_neg hab]; omega
  · rintro r (rfl | rfl)
    · rfl
    · rfl
theorem gcdF_eq {n m z : Nat} (h : gcdF n m = some z) : ZFf n m = some z := by
  unfold gcdF at h; split at h
  · rename_i hh; rw [gcd_eq hh.1 hh.2, ← h]
  · cases h
noncomputable def of_m (n : Int) : Option (Int) :=
 ifb (decide (n < (0 : Int)))
 (bnd (ZWb (IntKind.u64.wrap (-(IntKind.u64.wrap n)))) fun y13 =>
 bnd (Zyd true y13) fun y31 =>
 some y31)
 (bnd (ZWb (IntKind.u64.wrap n)) fun y36 =>
 bnd (Zyd false y36) fun y54 =>
 some y54)
noncomputable def ZRh (d : Nat) : Option (Nat) :=
 ifb (((((Zg 18446744073709551616 d)).length : Int)) == ((0 : Int)))
 (bnd (ZWb ((1 : Int))) fun y13 =>
 some y13)
 (some d)
noncomputable def Zzg (x : Int) : Option (Int) :=
 ifb (decide (x < 0))
 (some ((-1 : Int)))
 (ifb (decide ((0 : Int) < (((Zg 18446744073709551616 x.natAbs)).length : Int)))
 (some ((1 : Int)))
 (some ((0 : Int))))
theorem Zrk {n : Nat} : 0 < (Zg 18446744073709551616 n).length ↔ n ≠ 0 := List.length_pos_iff.trans (Zmc (by decide))
theorem ZOj {n : Nat} : decide ((0 : Int) < ((Zg 18446744073709551616 n).length : Int)) = decide (n ≠ 0) :=
  decide_eq_decide.2 (Int.natCast_pos.trans Zrk)
theorem ZDk {n : Nat} : (((Zg 18446744073709551616 n).length : Int) == 0) = decide (n = 0) := by
  by_cases h : n = 0
  · subst h; rw [ZVa]; rfl
  · rw [decide_eq_false h]; have := Zrk.2 h; exact beq_eq_false_iff_ne.2 (by omega)
theorem Z8d {s : Bool} {n : Nat} (h : s = true → n ≠ 0) : Zyd s n = some (if s then -(n : Int) else n) := by
  unfold Zyd; rw [if_neg (fun hh => h hh.1 hh.2)]
theorem Zbn {s : Bool} {n : Nat} {z : Int} (h : Zmb s n = some z) : Zvh s n = some z := by
  unfold Zmb at h; unfold Zvh
  cases s
  · rw [ZY, Zh, Z8d (by simp), Zh, ← h]
  · rw [Z1, Zh, ZOj]; by_cases h0 : n = 0
    · subst h0; rw [Z8d (by simp), Zh, ← h]; simp
    · rw [decide_eq_true h0, Z8d (by simpa using h0), Zh, ← h]
theorem ofF_eq {n z : Int} (hn : inR .i64 n) (h : ofF n = some z) : of_m n = some z := by
  have hr := ZPb.1 hn; unfold ofF at h
  cases h
  unfold of_m ZWb; rw [wrap_u64, wrap_u64]; by_cases hc : n < 0
  · rw [decide_eq_true hc, Z1, Zh, Z8d (by omega), Zh]; simp only [if_true]; congr 1; omega
  · rw [decide_eq_false hc, ZY, Zh, Z8d (by simp), Zh]; have : ((n % 18446744073709551616).toNat : Int) = n := by omega
    simp [this]
theorem Zio {d z : Nat} (h : Zoc d = some z) : ZRh d = some z := by
  unfold Zoc ZNd at h; unfold ZRh; rw [ZDk]; by_cases h0 : d = 0
  · subst h0; rw [decide_eq_true rfl, Z1, ← h]; rfl
  · rw [decide_eq_false h0, ZY, ← h, if_neg h0]
theorem Zrm {x z : Int} (h : ZNf x = some z) : Zzg x = some z := by
  unfold ZNf at h
  cases h
  unfold Zzg; rw [ZOj]; by_cases h1 : x < 0
  · rw [decide_eq_true h1, Z1, Int.sign_eq_neg_one_of_neg h1]
  · rw [decide_eq_false h1, ZY]; by_cases h2 : x = 0
    · subst h2; rfl
    · rw [decide_eq_true (by omega), Z1, Int.sign_eq_one_of_pos (by omega)]
noncomputable def Zdh (x : Int) (y : Int) : Option (Int) :=
 ifb ((decide (x < 0)) == (decide (y < 0)))
 (bnd (Zje x.natAbs y.natAbs) fun y28 =>
 bnd (Zmb (decide (x < 0)) y28) fun y37 =>
 some y37)
 (bnd (Zad x.natAbs y.natAbs) fun y68 =>
 ifb (decide ((0 : Int) ≤ y68))
 (bnd (ZMe x.natAbs y.natAbs) fun y83 =>
 bnd (Zmb (decide (x < 0)) y83) fun y92 =>
 some y92)
 (bnd (ZMe y.natAbs x.natAbs) fun y121 =>
 bnd (Zmb (decide (y < 0)) y121) fun y130 =>
 some y130))
noncomputable def Z6g (x : Int) (y : Int) : Option (Int) :=
 bnd (Zzc x.natAbs y.natAbs) fun y21 =>
 bnd (Zmb ((decide (x < 0)) != (decide (y < 0))) y21) fun y30 =>
 some y30
noncomputable def Zwh (x : Int) (n : Nat) : Option (Int) :=
 bnd (Zzc x.natAbs n) fun y17 =>
 bnd (Zmb (decide (x < 0)) y17) fun y26 =>
 some y26
noncomputable def ZKh (x : Int) : Option (Int) :=
 bnd (Zmb (!(decide (x < 0))) x.natAbs) fun y14 =>
 some y14
noncomputable def ZNh (n : Int) : Option (Rat) :=
 bnd (ofF n) fun y8 =>
 bnd (ZHd y8 ((0 : Nat))) fun y28 =>
 some y28
noncomputable def Zxh (n : Int) (d : Nat) : Option (Rat) :=
 bnd (gcdF n.natAbs d) fun y19 =>
 bnd (Zoe y19) fun y38 =>
 bnd (ifb (!(y38))
 (bnd (ZSc n.natAbs y19) fun y107 =>
 bnd (ZSc d y19) fun y135 =>
 some ((y135.1, (decide (n < 0), y107.1))))
 (some ((d, (decide (n < 0), n.natAbs)))))
 (fun (p : Nat × (Bool × Nat)) => match p with
 | (x49, x54) =>
 (bnd (Zoe x49) fun y70 =>
 bnd (ifb (y70)
 (some ((0 : Nat)))
 (some x49))
 (fun (x81 : Nat) =>
 (bnd (Zyd x54.1 x54.2) fun y97 =>
 bnd (ZHd y97 x81) fun y100 =>
 some y100))))
noncomputable def ZGg (x : Rat) : Option (Bool) :=
 some (((((Zg 18446744073709551616 ((x.num).natAbs))).length : Int)) == ((0 : Int)))
noncomputable def Z8g (x : Rat) (y : Rat) : Option (Bool) :=
 bnd (ifb ((decide (x.num < 0)) == (decide (y.num < 0)))
 (bnd (Zad ((x.num).natAbs) ((y.num).natAbs)) fun y39 =>
 ifb (y39 == ((0 : Int)))
 (bnd (Zad ((Z5a x.den)) ((Z5a y.den))) fun y47 =>
 some (y47 == ((0 : Int))))
 (some false))
 (some false))
 (fun (x24 : Bool) =>
 (some x24))
theorem Z8m {x y z : Int} (h : ZQf x y = some z) : Zdh x y = some z := by
  unfold ZQf at h; split at h
  · rename_i hh; obtain ⟨hx, hy⟩ := hh
    cases h
    unfold Zdh Zmb Zje ZMe Zad; by_cases hs : decide (x < 0) = decide (y < 0)
    · rw [hs, show (decide (y < 0) == decide (y < 0)) = true by simp, Z1, if_pos ⟨hx, hy⟩, Zh, Zh]; by_cases h0 : y < 0
      · rw [decide_eq_true h0] at hs ⊢; have hx0 := of_decide_eq_true hs; rw [if_pos rfl]; congr 1; omega
      · rw [decide_eq_false h0] at hs ⊢; have hx0 := of_decide_eq_false hs; rw [if_neg (by simp)]; congr 1; omega
    · have e : (decide (x < 0) == decide (y < 0)) = false := by simpa using hs
      rw [e, ZY, Zh]; have hxy : (x < 0 ∧ ¬ y < 0) ∨ (¬ x < 0 ∧ y < 0) := by
        by_cases h1 : x < 0 <;> by_cases h2 : y < 0 <;> simp [h1, h2] at hs ⊢
      by_cases hc : y.natAbs ≤ x.natAbs
      · have : decide (0 ≤ Zhb x.natAbs y.natAbs) = true := by
          unfold Zhb; rw [if_neg (by omega)]; split <;> rfl
        rw [this, Z1, if_pos ⟨hx, hc⟩, Zh, Zh]; rcases hxy with ⟨h1, h2⟩ | ⟨h1, h2⟩
        · rw [decide_eq_true h1, if_pos rfl]; congr 1; omega
        · rw [decide_eq_false h1, if_neg (by simp)]; congr 1; omega
      · have : decide (0 ≤ Zhb x.natAbs y.natAbs) = false := by
          unfold Zhb; rw [if_pos (by omega)]; rfl
        rw [this, ZY, if_pos ⟨hy, by omega⟩, Zh, Zh]; rcases hxy with ⟨h1, h2⟩ | ⟨h1, h2⟩
        · rw [decide_eq_false h2, if_neg (by simp)]; congr 1; omega
        · rw [decide_eq_true h2, if_pos rfl]; congr 1; omega
  · cases h
theorem Z0k {x y : Int} : (if (decide (x < 0) != decide (y < 0)) = true then -((x.natAbs * y.natAbs : Nat) : Int) else ((x.natAbs * y.natAbs : Nat) : Int)) = x * y := by
  rw [Int.natCast_mul]; by_cases h1 : x < 0 <;> by_cases h2 : y < 0
  · simp only [h1, h2, decide_true, bne_self_eq_false, Bool.false_eq_true, if_false]; rw [Int.ofNat_natAbs_of_nonpos (by omega), Int.ofNat_natAbs_of_nonpos (by omega), Int.neg_mul_neg]
  · simp only [h1, h2, decide_true, decide_false]; rw [Int.ofNat_natAbs_of_nonpos (by omega), Int.natAbs_of_nonneg (by omega)]; simp [Int.neg_mul]
  · simp only [h1, h2, decide_true, decide_false]; rw [Int.natAbs_of_nonneg (by omega), Int.ofNat_natAbs_of_nonpos (by omega)]; simp [Int.mul_neg]
  · simp only [h1, h2, decide_false, bne_self_eq_false, Bool.false_eq_true, if_false]; rw [Int.natAbs_of_nonneg (by omega), Int.natAbs_of_nonneg (by omega)]
theorem ZGo {x y z : Int} (h : Zxg x y = some z) : Z6g x y = some z := by
  unfold Zxg at h; split at h
  · rename_i hh
    cases h
    unfold Z6g Zmb Zzc; rw [if_pos hh, Zh, Zh, Z0k]
  · cases h
theorem Z5m {x z : Int} {n : Nat} (h : Z1d x n = some z) : Zwh x n = some z := by
  unfold Z1d at h; split at h
  · rename_i hh
    cases h
    unfold Zwh Zmb Zzc; rw [if_pos hh, Zh, Zh]; have := Z0k (x := x) (y := (n : Int)); have h0 : decide ((n : Int) < 0) = false := decide_eq_false (by omega); rw [h0] at this; simp only [Int.natAbs_natCast, Bool.bne_false] at this; rw [this]
  · cases h
theorem Zun {x z : Int} (h : Zng x = some z) : ZKh x = some z := by
  unfold Zng at h
  cases h
  unfold ZKh Zmb; rw [Zh]; by_cases h1 : x < 0
  · rw [decide_eq_true h1]; simp; omega
  · rw [decide_eq_false h1]; simp; omega
theorem ZLo {n : Int} {z : Rat} (h : Z5c n = some z) : ZNh n = some z := by
  unfold Z5c at h
  cases h
  unfold ZNh ofF; rw [Zh]; have := Z3g (n : Rat); have e : Z5a (n : Rat).den = 0 := by simp [Z5a]
  rw [e] at this; have e2 : (n : Rat).num = n := by simp
  rw [e2] at this; rw [this, Zh]
theorem Zwm {x : Rat} {z : Bool} (h : Zbg x = some z) : ZGg x = some z := by
  unfold Zbg at h; unfold ZGg; rw [ZDk, ← h]; congr 1; apply decide_eq_decide.2; rw [Int.natAbs_eq_zero, Rat.num_eq_zero]
theorem ZFo {a b : Nat} (ha : a ≠ 0) (hb : b ≠ 0) (h : Z5a a = Z5a b) : a = b := by
  have h1 := ZSg a ha; have h2 := ZSg b hb; rw [← h1, ← h2, h]
theorem Zjk {n m : Nat} : (Zhb n m == 0) = decide (n = m) := by
  unfold Zhb; by_cases h : n < m
  · rw [if_pos h, decide_eq_false (by omega)]; rfl
  · rw [if_neg h]; by_cases h2 : m < n
    · rw [if_pos h2, decide_eq_false (by omega)]; rfl
    · rw [if_neg h2, decide_eq_true (by omega)]; rfl
theorem Zxo {x y : Rat} {z : Bool} (h : ZIe x y = some z) : Z8g x y = some z := by
  unfold ZIe at h
  cases h
  unfold Z8g Zad; by_cases hxy : x = y
  · subst hxy; simp only [beq_self_eq_true, Z1, Zh, Zjk, decide_true]
  · rw [decide_eq_false hxy]; by_cases hs : decide (x.num < 0) = decide (y.num < 0)
    · rw [hs]; simp only [beq_self_eq_true, Z1, Zh, Zjk]; by_cases hn : x.num.natAbs = y.num.natAbs
      · rw [decide_eq_true hn, Z1, Zh]; have hnum : x.num = y.num := by
          by_cases h1 : x.num < 0 <;> by_cases h2 : y.num < 0 <;> simp [h1, h2] at hs <;> omega
        have hden : ¬ Z5a x.den = Z5a y.den := fun e => hxy (Rat.ext hnum (ZFo x.den_nz y.den_nz e)); rw [decide_eq_false hden]
      · rw [decide_eq_false hn, ZY, Zh]
    · have e : (decide (x.num < 0) == decide (y.num < 0)) = false := by simpa using hs
      rw [e, ZY, Zh]
theorem ZAm {n : Int} {d : Nat} {z : Rat} (h : Zpc n d = some z) : Zxh n d = some z := by
  unfold Zpc at h; split at h
  · rename_i hh; obtain ⟨hn, hd, h0⟩ := hh
    cases h
    unfold Zxh gcdF Zoe ZSc; rw [if_pos ⟨hn, hd⟩, Zh, Zh]; obtain ⟨g, hg⟩ : ∃ g, g = Nat.gcd n.natAbs d := ⟨_, rfl⟩; have hg0 : g ≠ 0 := by rw [hg]; exact fun e => h0 (Nat.gcd_eq_zero_iff.1 e).2
    have hgd : g ∣ d := by rw [hg]; exact Nat.gcd_dvd_right _ _
    have hgn : g ∣ n.natAbs := by rw [hg]; exact Nat.gcd_dvd_left _ _
    have hgok : okN g := ZFh (Nat.le_of_dvd (by omega) hgd) hd; rw [← hg]; have both : ifb (!decide (g = 1)) (bnd (if okN n.natAbs ∧ okN g ∧ g ≠ 0 then some (n.natAbs / g, n.natAbs % g) else none) fun y107 => bnd (if okN d ∧ okN g ∧ g ≠ 0 then some (d / g, d % g) else none) fun y135 => some (y135.1, (decide (n < 0), y107.1)))
        (some (d, (decide (n < 0), n.natAbs))) = some (d / g, (decide (n < 0), n.natAbs / g)) := by
      by_cases h1 : g = 1
      · rw [decide_eq_true h1, h1]; simp [ifb]
      · rw [decide_eq_false h1, if_pos ⟨hn, hgok, hg0⟩, if_pos ⟨hd, hgok, hg0⟩]; rfl
    rw [both, Zh]; simp only; rw [Zh]; have hden : ifb (decide (d / g = 1)) (some 0) (some (d / g)) = some (Z5a (d / g)) := by
      unfold Z5a; by_cases h1 : d / g = 1
      · rw [decide_eq_true h1, Z1, if_pos h1]
      · rw [decide_eq_false h1, ZY, if_neg h1]
    rw [hden, Zh]; have hq : mkRat n d = mkRat n d := rfl; have e1 : (mkRat n d).num = n / (g : Int) := by rw [Rat.num_mkRat, if_neg h0, Nat.gcd_comm, ← hg]
    have e2 : (mkRat n d).den = d / g := by rw [Rat.den_mkRat, if_neg h0, Nat.gcd_comm, ← hg]
    have hgpos : 0 < g := by omega
    obtain ⟨c, hc⟩ := hgn; have hcd : n.natAbs / g = c := by rw [hc, Nat.mul_div_cancel_left _ hgpos]
    have e3 : Zyd (decide (n < 0)) (n.natAbs / g) = some (n / (g : Int)) := by
      rw [hcd]; by_cases hneg : n < 0
      · rw [decide_eq_true hneg, Z8d (fun _ e => by rw [e] at hc; omega), if_pos rfl]; have : n = (g : Int) * (-(c : Int)) := by
          have h1 : (n.natAbs : Int) = (g : Int) * c := by rw [hc]; simp
          rw [Int.mul_neg, ← h1]; omega
        rw [this, Int.mul_ediv_cancel_left _ (by omega)]
      · rw [decide_eq_false hneg, Z8d (by simp)]; have : n = (g : Int) * (c : Int) := by
          have h1 : (n.natAbs : Int) = (g : Int) * c := by rw [hc]; simp
          rw [← h1]; omega
        rw [this, Int.mul_ediv_cancel_left _ (by omega)]; simp
    rw [e3, Zh, ← e1, ← e2, Z3g, Zh]
  · cases h
noncomputable def ZMg (x : Rat) (y : Rat) : Option (Rat) :=
 bnd (Zoc ((Z5a x.den))) fun y27 =>
 bnd (Zoc ((Z5a y.den))) fun y38 =>
 bnd (Z1d x.num y38) fun y67 =>
 bnd (Z1d y.num y27) fun y77 =>
 bnd (ZQf y67 y77) fun y87 =>
 bnd (Zzc y27 y38) fun y97 =>
 bnd (Zpc y87 y97) fun y106 =>
 some y106
noncomputable def ZIh (x : Rat) (y : Rat) : Option (Rat) :=
 bnd (Zxg x.num y.num) fun y29 =>
 bnd (Zoc ((Z5a x.den))) fun y39 =>
 bnd (Zoc ((Z5a y.den))) fun y48 =>
 bnd (Zzc y39 y48) fun y57 =>
 bnd (Zpc y29 y57) fun y66 =>
 some y66
noncomputable def ZZg (x : Rat) : Option (Rat) :=
 bnd (Zng x.num) fun y18 =>
 bnd (ZHd y18 ((Z5a x.den))) fun y40 =>
 some y40
noncomputable def Zgh (x : Rat) : Option (Int) :=
 bnd (ZNf x.num) fun y16 =>
 some y16
theorem Zxe (q : Rat) : ZNd (Z5a q.den) = q.den := ZSg q.den q.den_nz
theorem okN_of {n k : Nat} (h : bl n ≤ 64 * k) (hk : k ≤ 68719476736) : okN n := by
  unfold okN; refine Nat.le_trans (Zhe (B := 18446744073709551616) (k := k) (by decide) ?_) hk; have h1 := ZUd n; have h2 : 18446744073709551616 ^ k = 2 ^ (64 * k) := by rw [Nat.pow_mul]
  rw [h2]; exact Nat.lt_of_lt_of_le h1 (Nat.pow_le_pow_right (by omega) h)
theorem Z6a {n : Nat} (h : bl n ≤ 4398046511104) : okN n := okN_of (k := (bl n + 63) / 64) (by omega) (by omega)
theorem Zec (a b : Nat) : bl (a * b) ≤ bl a + bl b := by
  apply Zac; rw [Nat.pow_add]; exact Nat.mul_lt_mul'' (ZUd a) (ZUd b)
theorem ZAi (a b : Nat) : bl (a + b) ≤ max (bl a) (bl b) + 1 := by
  apply Zac; have h1 := ZUd a; have h2 := ZUd b; have h3 : 2 ^ bl a ≤ 2 ^ max (bl a) (bl b) := Nat.pow_le_pow_right (by omega) (Nat.le_max_left ..); have h4 : 2 ^ bl b ≤ 2 ^ max (bl a) (bl b) := Nat.pow_le_pow_right (by omega) (Nat.le_max_right ..); rw [Nat.pow_succ]; omega
theorem ZDn {x y z : Rat} (h : ZVb x y = some z) : ZMg x y = some z := by
  unfold ZVb at h; split at h
  · rename_i hh; obtain ⟨⟨h1, h2⟩, h3, h4⟩ := hh
    cases h
    unfold ZMg Zoc Z1d ZQf Zzc Zpc; rw [Zxe, Zxe, Zh, Zh]; have p1 := Zec x.num.natAbs y.den; have p2 := Zec y.num.natAbs x.den; have p3 := Zec x.den y.den; have e1 : (x.num * (y.den : Int)).natAbs = x.num.natAbs * y.den := by rw [Int.natAbs_mul]; simp
    have e2 : (y.num * (x.den : Int)).natAbs = y.num.natAbs * x.den := by rw [Int.natAbs_mul]; simp
    have p4 : bl (x.num * (y.den : Int) + y.num * (x.den : Int)).natAbs ≤ 4398046511104 := by
      have h5 := Int.natAbs_add_le (x.num * (y.den : Int)) (y.num * (x.den : Int)); have h6 := ZGd h5; have h7 := ZAi (x.num * (y.den : Int)).natAbs (y.num * (x.den : Int)).natAbs; rw [e1, e2] at h7; rw [e1, e2] at h6; omega
    rw [if_pos ⟨Z6a (by omega), Z6a (by omega)⟩, Zh, if_pos ⟨Z6a (by omega), Z6a (by omega)⟩, Zh, if_pos ⟨by rw [e1]; exact Z6a (by omega), by rw [e2]; exact Z6a (by omega)⟩, Zh,
      if_pos ⟨Z6a (by omega), Z6a (by omega)⟩, Zh, if_pos ⟨Z6a p4, Z6a (by omega), Nat.mul_ne_zero x.den_nz y.den_nz⟩, Zh, ← Rat.add_def']
  · cases h
theorem ZIo {x y z : Rat} (h : ZKb x y = some z) : ZIh x y = some z := by
  unfold ZKb at h; split at h
  · rename_i hh; obtain ⟨⟨h1, h2⟩, h3, h4⟩ := hh
    cases h
    unfold ZIh Zoc Zxg Zzc Zpc; rw [Zxe, Zxe]; have p1 := Zec x.num.natAbs y.num.natAbs; have p3 := Zec x.den y.den; have e1 : (x.num * y.num).natAbs = x.num.natAbs * y.num.natAbs := Int.natAbs_mul ..; rw [if_pos ⟨Z6a (by omega), Z6a (by omega)⟩, Zh, Zh, Zh, if_pos ⟨Z6a (by omega), Z6a (by omega)⟩, Zh, if_pos ⟨by rw [e1]; exact Z6a (by omega), Z6a (by omega), Nat.mul_ne_zero x.den_nz y.den_nz⟩, Zh, ← Rat.mul_def']
  · cases h
theorem ZCn {x : Rat} {z : Int} (h : ZYc x = some z) : Zgh x = some z := by
  unfold ZYc at h; unfold Zgh ZNf; rw [Zh, h]
theorem ZCl {x z : Rat} (h : Zzf x = some z) : ZZg x = some z := by
  unfold Zzf at h
  cases h
  unfold ZZg Zng; rw [Zh]; have := Z3g (-x); have e1 : (-x).num = -x.num := rfl; have e2 : (-x).den = x.den := rfl; rw [e1, e2] at this; rw [this, Zh]
noncomputable def Zbh (x : Rat) (y : Rat) : Option (Rat × Int) :=
 bnd (Zbg y) fun y27 =>
 ifb (y27)
 (some (((0 : Rat), (3 : Int))))
 (bnd (bnd (Zoc ((Z5a y.den))) fun y154 =>
 bnd (Z1d x.num y154) fun y163 =>
 some y163)
 (fun (x45 : Int) =>
 (bnd (Zmb ((decide (x45 < 0)) != (decide (y.num < 0))) x45.natAbs) fun y66 =>
 bnd (Zoc ((Z5a x.den))) fun y78 =>
 bnd (Zzc y78 ((y.num).natAbs)) fun y87 =>
 bnd (Zpc y66 y87) fun y96 =>
 some ((y96, (0 : Int))))))
noncomputable def ZDg (n : Int) (d : Int) : Option (Rat × Int) :=
 ifb (d == ((0 : Int)))
 (some (((0 : Rat), (3 : Int))))
 (bnd (ofF n) fun y18 =>
 bnd (ofF d) fun y28 =>
 bnd (Zmb ((decide (y18 < 0)) != (decide (y28 < 0))) y18.natAbs) fun y66 =>
 bnd (Zpc y66 y28.natAbs) fun y76 =>
 some ((y76, (0 : Int))))
noncomputable def ZTh (x : Rat) (y : Rat) : Option (Rat) :=
 bnd (Zzf y) fun y25 =>
 bnd (ZVb x y25) fun y38 =>
 some y38
theorem ZVh (n d : Int) : Rat.divInt n d = mkRat (if d < 0 then -n else n) d.natAbs := by
  cases d with
  | ofNat d => rw [if_neg (by simp)]; rfl
  | negSucc d =>
    rw [if_pos (Int.negSucc_lt_zero d)]; show Rat.normalize (-n) (d + 1) (Nat.succ_ne_zero d) = mkRat (-n) (d + 1); rw [Rat.normalize_eq_mkRat]
theorem inv_mk {y : Rat} (h : y ≠ 0) : y⁻¹ = mkRat (if y.num < 0 then -(y.den : Int) else y.den) y.num.natAbs := by
  rw [Rat.inv_def, ZVh]
theorem Zpk {x y : Rat} (h : y ≠ 0) : x / y = mkRat (if y.num < 0 then -(x.num * (y.den : Int)) else x.num * (y.den : Int)) (x.den * y.num.natAbs) := by
  rw [Rat.div_def, inv_mk h]
  conv => lhs; rw [← Rat.mkRat_self x]
  rw [Rat.mkRat_mul_mkRat]
  · congr 1; split <;> grind
theorem okQ_neg {x : Rat} (h : okQ x) : okQ (-x) := by
  unfold okQ at *; have e1 : (-x).num = -x.num := rfl; have e2 : (-x).den = x.den := rfl; rw [e1, e2, Int.natAbs_neg]; exact h
theorem Zzn {x y z : Rat} (h : Z9b x y = some z) : ZTh x y = some z := by
  unfold Z9b at h; split at h
  · rename_i hh; unfold ZTh Zzf ZVb; rw [Zh, if_pos ⟨hh.1, okQ_neg hh.2⟩, Zh, ← Rat.sub_eq_add_neg]; exact h
  · cases h
theorem ZYi {y : Rat} (h : y ≠ 0) : y.num ≠ 0 := fun e => h (by rwa [Rat.num_eq_zero] at e)
theorem ZNi (n m : Int) : Zmb (decide (n < 0) != decide (m < 0)) n.natAbs = some (if m < 0 then -n else n) := by
  unfold Zmb; by_cases h1 : n < 0 <;> by_cases h2 : m < 0 <;> simp [h1, h2] <;> omega
theorem Zin {x y : Rat} {z : Rat × Int} (h : Z7c x y = some z) : Zbh x y = some z := by
  unfold Z7c at h; split at h
  · rename_i hh; obtain ⟨⟨h1, h2⟩, h3, h4⟩ := hh
    cases h
    unfold Zbh Zbg; rw [Zh]; by_cases h0 : y = 0
    · subst h0; rfl
    · rw [decide_eq_false h0, ZY, if_neg h0]; unfold Z1d Zoc Zzc Zpc; rw [Zxe, Zxe]; have p1 := Zec x.num.natAbs y.den; have p3 := Zec x.den y.num.natAbs; have e1 : (x.num * (y.den : Int)).natAbs = x.num.natAbs * y.den := by rw [Int.natAbs_mul]; simp
      have e2 : (if y.num < 0 then -(x.num * (y.den : Int)) else x.num * (y.den : Int)).natAbs = x.num.natAbs * y.den := by
        split
        · rw [Int.natAbs_neg]; exact e1
        · exact e1
      have hn := ZYi h0; rw [Zh, if_pos ⟨Z6a (by omega), Z6a (by omega)⟩, Zh, Zh, ZNi, Zh, Zh, if_pos ⟨Z6a (by omega), Z6a (by omega)⟩, Zh,
        if_pos ⟨by rw [e2]; exact Z6a (by omega), Z6a (by omega), Nat.mul_ne_zero x.den_nz (by omega)⟩, Zh, ← Zpk h0]
  · cases h
theorem ZPo {n d : Int} {z : Rat × Int} (hn : inR .i64 n) (hd : inR .i64 d) (h : Zxf n d = some z) : ZDg n d = some z := by
  unfold Zxf at h
  cases h
  have hn := ZPb.1 hn; have hd := ZPb.1 hd; have ok : ∀ k : Nat, k < 2 ^ 64 → okN k := fun k hk => Z6a (Nat.le_trans (Zac hk) (by decide)); unfold ZDg; by_cases h0 : d = 0
  · subst h0; rfl
  · have e0 : (d == 0) = false := by simp [h0]
    rw [e0, ZY, if_neg h0]; unfold ofF Zpc; rw [Zh, Zh, ZNi, Zh, if_pos ⟨ok _ (by split <;> omega), ok _ (by omega), by omega⟩, Zh, ← ZVh]
noncomputable def ZJg (x : Rat) (y : Rat) : Option (Int) :=
 bnd (Z9b x y) fun y23 =>
 bnd (ZYc y23) fun y36 =>
 some y36
noncomputable def Znh (x : Int) (d : Nat) : Option (Int) :=
 bnd (ZSc x.natAbs d) fun y17 =>
 bnd (ifb (decide (x < 0))
 (some (decide ((0 : Int) < (((Zg 18446744073709551616 y17.2)).length : Int))))
 (some false))
 (fun (x49 : Bool) =>
 (bnd (ifb (x49)
 (bnd (ZWb ((1 : Int))) fun y93 =>
 bnd (Zje y17.1 y93) fun y102 =>
 some y102)
 (some y17.1))
 (fun (x58 : Nat) =>
 (bnd (Zmb (decide (x < 0)) x58) fun y72 =>
 some y72))))
noncomputable def ZZh (a : Nat) (i : Int) : Option (Int) :=
 bnd (ifb (decide (i < (0 : Int)))
 (some true)
 (bnd (quo .i64 i ((64 : Int))) fun y46 =>
 some (decide ((((Zg 18446744073709551616 a)).length : Int) ≤ y46))))
 (fun (x12 : Bool) =>
 (ifb (x12)
 (some ((0 : Int)))
 (bnd (quo .i64 i ((64 : Int))) fun y25 =>
 bnd (idx ((Zg 18446744073709551616 a)) y25) fun y27 =>
 bnd (rem .i64 i ((64 : Int))) fun y35 =>
 bnd (ZKa .u64 y27 y35) fun y37 =>
 some (Zma .u64 y37 ((1 : Int))))))
noncomputable def Zih (n : Int) : Option ((List UInt8)) :=
 bnd (bnd (Zna (fun s : (List Int) × Int × Int => match s with
 | (x32, x36, x38) =>
 (ifb (decide ((0 : Int) < x36))
 (bnd (chk .i64 (x38 - ((1 : Int)))) fun y65 =>
 bnd (rem .u64 x36 ((10 : Int))) fun y67 =>
 bnd (idx x32 y65) fun y69 =>
 bnd (quo .u64 x36 ((10 : Int))) fun y85 =>
 some (.inl (((x32.set (y65).toNat (IntKind.u8.wrap (IntKind.u64.wrap (((48 : Int)) + y67)))), y85, y65))))
 (some (.inr ((x32, x38)))))) ZBa (((List.replicate 20 (0 : Int)), n, (20 : Int))))
 (fun (p : (List Int) × Int) => match p with
 | (x42, x46) =>
 (some ((x42, x46)))))
 (fun (p : (List Int) × Int) => match p with
 | (x15, x19) =>
 (bnd (ZXb x15 x19 (x15.length : Int)) fun y30 =>
 some ((Zgd (x15.drop ((x19).toNat))))))
noncomputable def ZQg (r : (Int × Int)) : Option (Rat) :=
 ifb (r.2 == ((0 : Int)))
 (bnd (Z5c r.1) fun y20 =>
 some y20)
 (bnd (Zxf r.1 r.2) fun y48 =>
 some y48.1)
theorem Z4n {x y : Rat} {z : Int} (h : ZHc x y = some z) : ZJg x y = some z := by
  unfold ZHc at h; split at h
  · rename_i hh
    cases h
    unfold ZJg Z9b ZYc; rw [if_pos hh, Zh, Zh]
  · cases h
theorem ZPl {n d : Nat} (hd : d ≠ 0) : (-(n : Int)) / (d : Int) = if n % d = 0 then -((n / d : Nat) : Int) else -((n / d + 1 : Nat) : Int) := by
  have h1 := Nat.div_add_mod n d; have h2 := Nat.mod_lt n (by omega : 0 < d); generalize n / d = q at *; generalize n % d = r at *; subst h1; split
  · rename_i h0; subst h0; rw [Nat.add_zero]; have : (-((d * q : Nat) : Int)) = (d : Int) * (-(q : Int)) := by grind
    rw [this, Int.mul_ediv_cancel_left _ (by omega)]
  · rename_i h0; have e : (-((d * q + r : Nat) : Int)) = ((d - r : Nat) : Int) + (d : Int) * (-((q + 1 : Nat) : Int)) := by
      have : ((d - r : Nat) : Int) = (d : Int) - r := by omega
      rw [this]; grind
    rw [e, Int.add_mul_ediv_left _ _ (by omega), Int.ediv_eq_zero_of_lt (by omega) (by omega), Int.zero_add]
theorem ZJl {x : Int} {d : Nat} {z : Int} (h : ZAe x d = some z) : Znh x d = some z := by
  unfold ZAe at h; split at h
  · rename_i hh; obtain ⟨h1, h2, h3⟩ := hh
    cases h
    unfold Znh; have e : ZSc x.natAbs d = some (x.natAbs / d, x.natAbs % d) := by unfold ZSc; rw [if_pos ⟨h1, h2, h3⟩]
    rw [e, Zh]; simp only; have hq : okN (x.natAbs / d) := ZFh (Nat.div_le_self _ _) h1; have h1' : okN 1 := Z6a (by decide); by_cases hx : x < 0
    · rw [decide_eq_true hx, Z1, Zh]; obtain ⟨n, rfl⟩ : ∃ n : Nat, x = -(n : Int) := ⟨x.natAbs, by omega⟩; rw [Int.natAbs_neg, Int.natAbs_natCast] at *; rw [ZPl h3]; by_cases h0 : n % d = 0
      · rw [h0, ZVa]; show bnd (ifb (decide ((0 : Int) < 0)) _ _) _ = _; rw [show decide ((0 : Int) < 0) = false from rfl, ZY, Zh, if_pos rfl]; rfl
      · have hpos := List.length_pos_iff.2 ((Zmc (n := n % d) (B := 18446744073709551616) (by decide)).2 h0); rw [decide_eq_true (show (0 : Int) < ((Zg 18446744073709551616 (n % d)).length : Int) by omega), Z1, if_neg h0]; unfold ZWb Zje Zmb; rw [Zh, if_pos ⟨hq, h1'⟩]; rfl
    · rw [decide_eq_false hx, ZY, Zh, ZY, Zh]; obtain ⟨n, rfl⟩ := Int.eq_ofNat_of_zero_le (show 0 ≤ x by omega); unfold Zmb; simp [bnd]
  · cases h
theorem and_one {a : Nat} (h : a < 18446744073709551616) : Zma .u64 (a : Int) 1 = ((a % 2 : Nat) : Int) := by
  unfold Zma; rw [wrap_u64]; have h1 : (BitVec.ofInt IntKind.u64.bits (a : Int) &&& BitVec.ofInt IntKind.u64.bits 1).toNat = a % 2 := by
    rw [BitVec.toNat_and]; have e1 : (BitVec.ofInt IntKind.u64.bits (a : Int)).toNat = a := by
      show (BitVec.ofInt 64 (a : Int)).toNat = a; rw [BitVec.toNat_ofInt]; simp; omega
    have e2 : (BitVec.ofInt IntKind.u64.bits 1).toNat = 2 ^ 1 - 1 := by decide
    rw [e1, e2, Nat.and_two_pow_sub_one_eq_mod]
  rw [h1]; omega
theorem bitF_eq {a : Nat} {i z : Int} (h : bitF a i = some z) : ZZh a i = some z := by
  unfold bitF at h; split at h
  · rename_i hh; obtain ⟨h1, rfl⟩ := hh
    cases h
    unfold ZZh; have e0 : quo .i64 0 64 = some 0 := by decide
    have e1 : rem .i64 0 64 = some 0 := by decide
    rw [show decide ((0 : Int) < 0) = false from rfl, ZY, e0, Zh, Zh]; by_cases h0 : a = 0
    · subst h0; rw [ZVa]; rfl
    · have hpos := List.length_pos_iff.2 ((Zmc (n := a) (B := 18446744073709551616) (by decide)).2 h0); rw [decide_eq_false (by omega), ZY, Zh, e1]; have e2 : idx (Zg 18446744073709551616 a) 0 = some ((a % 18446744073709551616 : Nat) : Int) := by rw [Znc (by decide) h0]; rfl
      rw [e2, Zh, Zh]; have e3 : ZKa .u64 ((a % 18446744073709551616 : Nat) : Int) 0 = some ((a % 18446744073709551616 : Nat) : Int) := by
        have := Zmd (x := a % 18446744073709551616) (k := 0) (by omega)
        simpa using this
      rw [e3, Zh]; rw [and_one (by omega)]; exact congrArg (fun n : Nat => some (n : Int)) (Nat.mod_mod_of_dvd a (by decide))
  · cases h
theorem Zpn {n : Nat} (h : n < 10) : UInt8.ofNat (IntKind.u8.wrap (IntKind.u64.wrap (48 + ((n : Nat) : Int)))).toNat = UInt8.ofNat (48 + n) := by
  have : n = 0 ∨ n = 1 ∨ n = 2 ∨ n = 3 ∨ n = 4 ∨ n = 5 ∨ n = 6 ∨ n = 7 ∨ n = 8 ∨ n = 9 := by omega
  rcases this with rfl | rfl | rfl | rfl | rfl | rfl | rfl | rfl | rfl | rfl <;> rfl
theorem Zae {n : Nat} (h : n ≠ 0) : ZSa n = ZSa (n / 10) ++ [UInt8.ofNat (48 + n % 10)] := by rw [ZSa, dif_neg h]
theorem ZUc : ZSa 0 = [] := by rw [ZSa]; rfl
theorem ZDm {n : Int} {z : List UInt8} (hn : inR .u64 n) (h : Z6e n = some z) : Zih n = some z := by
  unfold Z6e at h
  cases h
  have hn := Zrd.1 hn; obtain ⟨N, rfl⟩ := Int.eq_ofNat_of_zero_le hn.1; unfold Zih; rw [Z0a]; refine Zeb (fun s : (List Int) × Int × Int => ∃ m k : Nat, s.2.1 = (m : Int) ∧ s.2.2 = (k : Int) ∧ k ≤ 20 ∧ m < 10 ^ k ∧ m < 18446744073709551616 ∧ s.1.length = 20 ∧ ZSa m ++ Zgd (s.1.drop k) = ZSa N) (fun s => s.2.1.toNat)
    (fun r : List Int × Int => ∃ k : Nat, r.2 = (k : Int) ∧ k ≤ 20 ∧ r.1.length = 20 ∧ Zgd (r.1.drop k) = ZSa N) ⟨N, 20, rfl, rfl, by omega, by omega, by omega, by simp, by simp [Zgd]⟩ (ZZa (by simp; omega)) ?_ ?_
  · rintro ⟨l, m, k⟩ ⟨m, k, rfl, rfl, hk, hm, hm2, hl, hd⟩; simp only at hm hm2 hl hd ⊢; by_cases h0 : m = 0
    · right; subst h0; rw [decide_eq_false (by omega), ZY]; rw [ZUc, List.nil_append] at hd; exact ⟨_, rfl, k, rfl, hk, hl, hd⟩
    · left; rw [decide_eq_true (by omega), Z1]; have hk0 : k ≠ 0 := by rintro rfl; omega
      obtain ⟨j, rfl⟩ : ∃ j, k = j + 1 := ⟨k - 1, by omega⟩; have c1 : chk .i64 (((j + 1 : Nat) : Int) - 1) = some (j : Int) := by rw [show ((j + 1 : Nat) : Int) - 1 = (j : Int) by omega, Zgb (by omega)]
      have c2 : rem .u64 (m : Int) 10 = some ((m % 10 : Nat) : Int) := Zce (q := 10) (by omega); have c3 : quo .u64 (m : Int) 10 = some ((m / 10 : Nat) : Int) := ZHe (q := 10) (by omega) hm2; rw [c1, Zh, c2, Zh, Zua (by omega), Zh, c3, Zh]; have hm10 : m / 10 < 10 ^ j := by
        rw [Nat.pow_succ] at hm; omega
      refine ⟨_, rfl, ⟨m / 10, j, rfl, rfl, by omega, hm10, by omega, by simp [hl], ?_⟩, by simp only [Int.toNat_natCast]; omega⟩; simp only [Int.toNat_natCast]; have hj : j < l.length := by omega
      rw [← hd, Zae h0, List.append_assoc]; congr 1; have e : (l.set j (IntKind.u8.wrap (IntKind.u64.wrap (48 + ((m % 10 : Nat) : Int))))).drop j = IntKind.u8.wrap (IntKind.u64.wrap (48 + ((m % 10 : Nat) : Int))) :: l.drop (j + 1) := by
        rw [List.drop_eq_getElem_cons (by simpa using hj), List.getElem_set_self, List.drop_set_of_lt (by omega)]
      rw [e]; show UInt8.ofNat _ :: Zgd _ = _; rw [Zpn (Nat.mod_lt _ (by omega))]; rfl
  · rintro ⟨l, k⟩ ⟨k, rfl, hk, hl, hd⟩; simp only at hl hd ⊢; rw [Zh]; simp only; have : ZXb l (k : Int) (l.length : Int) = some (l.drop k) := by
      unfold ZXb; rw [if_pos ⟨by omega, by omega, by omega⟩]; simp
    rw [this, Zh, Int.toNat_natCast, hd, Int.toNat_natCast]
theorem Zhn {r : Int × Int} {z : Rat} (h : Zfc r = some z) : ZQg r = some z := by
  unfold Zfc at h
  cases h
  unfold ZQg ZMb Z5c Zxf; by_cases h0 : r.2 = 0
  · rw [if_pos h0, h0]; rfl
  · have : (r.2 == 0) = false := by simp [h0]
    rw [this, ZY, Zh, if_neg h0, if_neg h0]
noncomputable def ZBg (x : Rat) (k : Int) : Option (Rat) :=
 bnd (Zic ((x.num).natAbs) (min (max k ((0 : Int))) ((1000 : Int)))) fun y22 =>
 bnd (Zmb (decide (x.num < 0)) y22) fun y31 =>
 bnd (Zoc ((Z5a x.den))) fun y41 =>
 bnd (ZAe y31 y41) fun y50 =>
 bnd (ZWb ((1 : Int))) fun y60 =>
 bnd (Zic y60 (min (max k ((0 : Int))) ((1000 : Int)))) fun y69 =>
 bnd (Zpc y50 y69) fun y78 =>
 some y78
noncomputable def ZOg (x : Rat) (step : Rat) : Option (Rat × Int) :=
 bnd (ZYc step) fun y27 =>
 ifb (decide (y27 ≤ (0 : Int)))
 (some (((0 : Rat), (1 : Int))))
 (bnd (Z7c x step) fun y46 =>
 bnd (Zke y46.1 ((0 : Int))) fun y82 =>
 bnd (ofF ((1 : Int))) fun y112 =>
 bnd (ZWb ((2 : Int))) fun y122 =>
 bnd (Z9b y46.1 y82) fun y152 =>
 bnd (ZHd y112 y122) fun y165 =>
 bnd (ZHc y152 y165) fun y168 =>
 bnd (ifb (decide ((0 : Int) < y168))
 (some true)
 (ifb (y168 == ((0 : Int)))
 (bnd (bitF ((y82.num).natAbs) ((0 : Int))) fun y306 =>
 some (y306 == ((1 : Int))))
 (some false)))
 (fun (x197 : Bool) =>
 (bnd (ifb (x197)
 (bnd (Z5c ((1 : Int))) fun y251 =>
 bnd (ZVb y82 y251) fun y264 =>
 some y264)
 (some y82))
 (fun (x206 : Rat) =>
 (bnd (ZKb x206 step) fun y224 =>
 some ((y224, (0 : Int))))))))
theorem ZQj (k : Nat) : bl (2 ^ k) = k + 1 := by
  have h : 2 ^ k ≠ 0 := Nat.pos_iff_ne_zero.1 (Nat.pow_pos (by omega)); exact (ZWd h).2 ⟨Nat.le_refl _, by rw [Nat.pow_succ]; have := Nat.pow_pos (n := k) (show 0 < 2 by omega); omega⟩
theorem Zhi (x : Int) (d : Nat) : (x / (d : Int)).natAbs ≤ x.natAbs := Int.natAbs_ediv_le_natAbs x d
theorem Z1l {x z : Rat} {k : Int} (h : Zke x k = some z) : ZBg x k = some z := by
  unfold Zke at h; split at h
  · rename_i hh; obtain ⟨h1, h2⟩ := hh
    cases h
    unfold ZBg; obtain ⟨K, hK, hK2⟩ : ∃ K : Nat, min (max k 0) 1000 = (K : Int) ∧ K ≤ 1000 := ⟨(min (max k 0) 1000).toNat, by omega, by omega⟩; rw [hK]; have p0 : bl (x.num.natAbs * 2 ^ K) ≤ bl x.num.natAbs + (K + 1) := by have := Zec x.num.natAbs (2 ^ K); rwa [ZQj] at this
    have e1 : Zic x.num.natAbs (K : Int) = some (x.num.natAbs * 2 ^ K) := by unfold Zic; rw [if_pos ⟨Z6a (by omega), by omega, by omega⟩, Int.toNat_natCast]
    have e2 : Zmb (decide (x.num < 0)) (x.num.natAbs * 2 ^ K) = some (x.num * 2 ^ K) := by
      unfold Zmb; congr 1; have : ((x.num.natAbs * 2 ^ K : Nat) : Int) = (x.num.natAbs : Int) * 2 ^ K := by simp
      rw [this]; by_cases h : x.num < 0
      · rw [decide_eq_true h, if_pos rfl, ← Int.neg_mul]; congr 1; omega
      · rw [decide_eq_false h]; simp; congr 1; omega
    have e3 : (x.num * 2 ^ K).natAbs = x.num.natAbs * 2 ^ K := by rw [Int.natAbs_mul, Int.natAbs_pow]; rfl
    have e4 : ZAe (x.num * 2 ^ K) x.den = some (x.num * 2 ^ K / (x.den : Int)) := by unfold ZAe; rw [if_pos ⟨by rw [e3]; exact Z6a (by omega), Z6a (by omega), x.den_nz⟩]
    have e5 : Zic 1 (K : Int) = some (2 ^ K) := by unfold Zic; rw [if_pos ⟨Z6a (by decide), by omega, by omega⟩, Int.toNat_natCast, Nat.one_mul]
    have e6 : Zpc (x.num * 2 ^ K / (x.den : Int)) (2 ^ K) = some (mkRat (x.num * 2 ^ K / (x.den : Int)) (2 ^ K)) := by
      unfold Zpc; have := Zhi (x.num * 2 ^ K) x.den; rw [e3] at this; rw [if_pos ⟨Z6a (Nat.le_trans (ZGd this) (by omega)), Z6a (by rw [ZQj]; omega), Nat.pos_iff_ne_zero.1 (Nat.pow_pos (by omega))⟩]
    unfold Zoc ZWb; rw [e1, Zh, e2, Zh, Zxe, Zh, e4, Zh, Zh]; rw [show (1 : Int).toNat = 1 from rfl, e5, Zh, e6, Zh, Int.toNat_natCast]
  · cases h
theorem ZGl (n : Int) : mkRat n 1 = (n : Rat) := by
  have := Rat.mkRat_self (n : Rat)
  simpa using this
theorem qfloor0 {x : Rat} (h : okQ x) : Zke x 0 = some ((x.num / (x.den : Int) : Int) : Rat) := by
  unfold Zke; rw [if_pos h]; rw [show (min (max (0 : Int) 0) 1000).toNat = 0 from rfl]; simp [ZGl]
theorem okQ_int {n : Int} (h : bl n.natAbs ≤ 1099511627776) : okQ (n : Rat) := ⟨by rw [Rat.num_intCast]; exact h, by rw [Rat.den_intCast]; decide⟩
theorem ZNg (n : Int) (d : Nat) : bl (mkRat n d).num.natAbs ≤ bl n.natAbs ∧ bl (mkRat n d).den ≤ bl d ∨ d = 0 := by
  by_cases hd : d = 0
  · exact .inr hd
  · left; rw [Rat.num_mkRat, Rat.den_mkRat]; constructor
    · refine ZGd ?_; split
      · simp
      · exact Zhi n _
    · refine ZGd ?_; split
      · omega
      · exact Nat.div_le_self _ _
theorem ZRj {x y : Rat} : bl (x / y).num.natAbs ≤ bl x.num.natAbs + bl y.den ∧ bl (x / y).den ≤ bl x.den + bl y.num.natAbs + 1 := by
  by_cases h0 : y = 0
  · subst h0; have : x / 0 = 0 := by rw [Rat.div_def, Rat.inv_zero, Rat.mul_zero]
    rw [this]; have h1 : bl (0 : Rat).den = 1 := by decide
    have h2 : bl (0 : Rat).num.natAbs = 0 := by decide
    rw [h1, h2]; omega
  · rw [Zpk h0]; have hd : x.den * y.num.natAbs ≠ 0 := Nat.mul_ne_zero x.den_nz (by have := ZYi h0; omega); rcases ZNg (if y.num < 0 then -(x.num * (y.den : Int)) else x.num * (y.den : Int)) (x.den * y.num.natAbs) with ⟨h1, h2⟩ | h1
    · have e : (if y.num < 0 then -(x.num * (y.den : Int)) else x.num * (y.den : Int)).natAbs = x.num.natAbs * y.den := by
        split
        · rw [Int.natAbs_neg, Int.natAbs_mul]; simp
        · rw [Int.natAbs_mul]; simp
      rw [e] at h1; have := Zec x.num.natAbs y.den; have := Zec x.den y.num.natAbs; omega
    · exact absurd h1 hd
theorem Z2j (x y : Rat) : bl (x + y).num.natAbs ≤ max (bl x.num.natAbs + bl y.den) (bl y.num.natAbs + bl x.den) + 1 ∧ bl (x + y).den ≤ bl x.den + bl y.den := by
  rw [Rat.add_def']; rcases ZNg (x.num * (y.den : Int) + y.num * (x.den : Int)) (x.den * y.den) with ⟨h1, h2⟩ | h1
  · have e1 : (x.num * (y.den : Int)).natAbs = x.num.natAbs * y.den := by rw [Int.natAbs_mul]; simp
    have e2 : (y.num * (x.den : Int)).natAbs = y.num.natAbs * x.den := by rw [Int.natAbs_mul]; simp
    have h5 := Int.natAbs_add_le (x.num * (y.den : Int)) (y.num * (x.den : Int)); have h6 := ZGd h5; have h7 := ZAi (x.num * (y.den : Int)).natAbs (y.num * (x.den : Int)).natAbs; rw [e1, e2] at h7; rw [e1, e2] at h6; have := Zec x.num.natAbs y.den; have := Zec y.num.natAbs x.den; have := Zec x.den y.den; omega
  · exact absurd h1 (Nat.mul_ne_zero x.den_nz y.den_nz)
theorem ZCk (x : Rat) : bl (-x).num.natAbs = bl x.num.natAbs ∧ (-x).den = x.den := by
  have e1 : (-x).num = -x.num := rfl; exact ⟨by rw [e1, Int.natAbs_neg], rfl⟩
theorem ZIj (x y : Rat) : bl (x - y).num.natAbs ≤ max (bl x.num.natAbs + bl y.den) (bl y.num.natAbs + bl x.den) + 1 ∧ bl (x - y).den ≤ bl x.den + bl y.den := by
  rw [Rat.sub_eq_add_neg]; have := Z2j x (-y); rw [(ZCk y).1, (ZCk y).2] at this; exact this
theorem ZKl (x y : Rat) : bl (x * y).num.natAbs ≤ bl x.num.natAbs + bl y.num.natAbs ∧ bl (x * y).den ≤ bl x.den + bl y.den := by
  rw [Rat.mul_def']; rcases ZNg (x.num * y.num) (x.den * y.den) with ⟨h1, h2⟩ | h1
  · have e1 : (x.num * y.num).natAbs = x.num.natAbs * y.num.natAbs := Int.natAbs_mul ..; rw [e1] at h1; have := Zec x.num.natAbs y.num.natAbs; have := Zec x.den y.den; omega
  · exact absurd h1 (Nat.mul_ne_zero x.den_nz y.den_nz)
theorem Zli (n : Int) : bl (n : Rat).num.natAbs = bl n.natAbs ∧ bl (n : Rat).den = 1 := ⟨by rw [Rat.num_intCast], by rw [Rat.den_intCast]; decide⟩
theorem half_eq : ZHd 1 2 = some (mkRat 1 2) := by
  have := Z3g (mkRat 1 2); have e1 : (mkRat 1 2).num = 1 := by decide
  have e2 : (mkRat 1 2).den = 2 := by decide
  rw [e1, e2] at this; exact this
theorem Zrn {x s : Rat} {z : Rat × Int} (h : Zzh x s = some z) : ZOg x s = some z := by
  unfold Zzh at h; split at h
  · rename_i hh; obtain ⟨⟨h1, h2⟩, h3, h4⟩ := hh
    cases h
    unfold ZOg ZYc; rw [Zh]; have es : decide (s.num.sign ≤ 0) = decide (s.num ≤ 0) := decide_eq_decide.2 (by
      rcases Int.lt_trichotomy s.num 0 with h | h | h
      · rw [Int.sign_eq_neg_one_of_neg h]; omega
      · rw [h]; simp
      · rw [Int.sign_eq_one_of_pos h]; omega)
    rw [es]; by_cases h0 : s.num ≤ 0
    · rw [decide_eq_true h0, Z1, if_pos h0]
    · rw [decide_eq_false h0, ZY, if_neg h0]; have hs0 : s ≠ 0 := by rintro rfl; exact h0 (by decide)
      have dsz := ZRj (x := x) (y := s); have e1 : Z7c x s = some (x / s, 0) := by unfold Z7c; rw [if_pos ⟨⟨by omega, by omega⟩, by omega, by omega⟩, if_neg hs0]
      rw [e1, Zh]; simp only; unfold rnd; generalize hq : x / s = q at *; have okq : okQ q := ⟨by omega, by omega⟩; have hfl := Zhi q.num q.den; have hfb := ZGd hfl; generalize hn : q.num / (q.den : Int) = n at *; have e2 : Zke q 0 = some ((n : Int) : Rat) := by rw [qfloor0 okq, hn]
      have isz := Zli n; have ssz := ZIj q (n : Rat); have e3 : Z9b q (n : Rat) = some (q - n) := by unfold Z9b; rw [if_pos ⟨okq, by omega, by omega⟩]
      have e4 : ZHc (q - n) (mkRat 1 2) = some (q - n - mkRat 1 2).num.sign := by
        unfold ZHc; rw [if_pos ⟨⟨by omega, by omega⟩, by decide⟩]
      have e5 : bitF (n : Rat).num.natAbs 0 = some ((n.natAbs % 2 : Nat) : Int) := by
        unfold bitF; rw [Rat.num_intCast, if_pos ⟨Z6a (by omega), rfl⟩]
      unfold ofF ZWb; rw [e2, Zh, Zh, Zh, show (2 : Int).toNat = 2 from rfl, e3, Zh, half_eq, Zh, e4, Zh, e5]; generalize (q - n - mkRat 1 2).num.sign = c; have e6 : ifb (decide ((0 : Int) < c)) (some true) (ifb (c == 0) (bnd (some ((n.natAbs % 2 : Nat) : Int)) fun y306 => some (y306 == 1)) (some false)) = some (decide (0 < c ∨ c = 0 ∧ n.natAbs % 2 = 1)) := by
        by_cases h1 : 0 < c
        · rw [decide_eq_true h1, Z1, decide_eq_true (.inl h1)]
        · rw [decide_eq_false h1, ZY]; by_cases h2 : c = 0
          · subst h2; rw [show ((0 : Int) == 0) = true from rfl, Z1, Zh]; congr 1; by_cases h3 : n.natAbs % 2 = 1
            · rw [h3, decide_eq_true (.inr ⟨rfl, rfl⟩)]; rfl
            · rw [decide_eq_false (by omega)]; exact beq_false_of_ne (by omega)
          · rw [beq_false_of_ne h2, ZY, decide_eq_false (by omega)]
      rw [e6, Zh]; have hn1 : bl (n + 1).natAbs ≤ bl n.natAbs + 2 := by
        have h1 : (n + 1).natAbs ≤ n.natAbs + 1 := by omega
        have h2 := ZGd h1; have h3 := ZAi n.natAbs 1; have h4 : bl 1 = 1 := by decide
        have h5 : bl n.natAbs = 0 ∨ 1 ≤ bl n.natAbs := by omega
        omega
      have isz1 := Zli (n + 1); by_cases hc : 0 < c ∨ c = 0 ∧ n.natAbs % 2 = 1
      · have e7 : ZVb (n : Rat) ((1 : Int) : Rat) = some ((n + 1 : Int) : Rat) := by
          unfold ZVb; rw [if_pos ⟨⟨by omega, by omega⟩, okQ_int (by decide)⟩, Rat.intCast_add]
        have e8 : ZKb ((n + 1 : Int) : Rat) s = some (((n + 1 : Int) : Rat) * s) := by unfold ZKb; rw [if_pos ⟨⟨by omega, by omega⟩, by omega, by omega⟩]
        unfold Z5c; rw [decide_eq_true hc, Z1, Zh, e7, Zh, Zh, e8, Zh, if_pos hc]
      · have e8 : ZKb (n : Rat) s = some ((n : Rat) * s) := by unfold ZKb; rw [if_pos ⟨⟨by omega, by omega⟩, by omega, by omega⟩]
        rw [decide_eq_false hc, ZY, Zh, e8, Zh, if_neg hc]
  · cases h
end Go.Eng
namespace Go.Eng
open Go.RowKit
theorem Zyi {v : Ze} {c : List Value} {a : List Int} (h : (ZD (Zb .u64)).rel v c a) : Dig 18446744073709551616 a ∧ a.length ≤ 9223372036854775807 := by
  have hl := ZWg h; rw [ZPb] at hl; refine ⟨?_, by omega⟩; obtain ⟨q, cap, rfl, h1, h2, h3⟩ := h; rcases h3 with rfl | ⟨b, off, cc, T, fr, rfl, hb, hr⟩
  · exact Dig.nil
  · intro x hx; obtain ⟨i, hi⟩ := List.getElem?_of_mem hx; have hg := ZMa hr hi; obtain ⟨_, h4⟩ := hg; have := Zrd.1 h4; omega
theorem ZUj {v : Ze} {c : List Value} {n : Nat} (h : ZF.rel v c n) : (Zg 18446744073709551616 n).length ≤ 9223372036854775807 := (Zyi (a := Zg 18446744073709551616 n) h).2
theorem Zqi {v : Ze} : ∀ {cs : List Value} {u : List Int}, Rep.rels (Zb .u64) v cs u → Dig 18446744073709551616 u
  | _, [], _ => Dig.nil
  | _, x :: u, h => by
    obtain ⟨c1, c2, rfl, ⟨_, h1⟩, h2⟩ := h
    have := Zrd.1 h1
    exact Dig.cons.2 ⟨by omega, Zqi h2⟩
noncomputable def Z9h (a : (List Int)) : Option ((List Int)) :=
 bnd (bnd (Zna (fun s : Int => match s with
 | x34 =>
 (bnd (ifb (decide ((0 : Int) < x34))
 (bnd (chk .i64 (x34 - ((1 : Int)))) fun y65 =>
 bnd (idx a y65) fun y67 =>
 some (y67 == ((0 : Int))))
 (some false))
 (fun (x53 : Bool) =>
 (ifb (x53)
 (bnd (chk .i64 (x34 - ((1 : Int)))) fun y62 =>
 some (.inl y62))
 (some (.inr x34)))))) ZBa ((a.length : Int)))
 (fun (x38 : Int) =>
 (some x38)))
 (fun (x13 : Int) =>
 (bnd (ZXb a ((0 : Int)) x13) fun y24 =>
 some y24))
noncomputable def Zai (a : Nat) (b : Nat) : Option (Int) :=
 ifb (decide ((((Zg 4294967296 a)).length : Int) < (((Zg 4294967296 b)).length : Int)))
 (some ((-1 : Int)))
 (ifb (decide ((((Zg 4294967296 b)).length : Int) < (((Zg 4294967296 a)).length : Int)))
 (some ((1 : Int)))
 (bnd (chk .i64 (((((Zg 4294967296 a)).length : Int)) - ((1 : Int)))) fun y27 =>
 bnd (bnd (Zna (fun s : Int => match s with
 | x40 =>
 (ifb (decide ((0 : Int) ≤ x40))
 (bnd (idx ((Zg 4294967296 a)) x40) fun y64 =>
 bnd (idx ((Zg 4294967296 b)) x40) fun y72 =>
 ifb (decide (y64 < y72))
 (some (.inr ((.inl ((-1 : Int))))))
 (bnd (idx ((Zg 4294967296 a)) x40) fun y97 =>
 bnd (idx ((Zg 4294967296 b)) x40) fun y103 =>
 ifb (decide (y103 < y97))
 (some (.inr ((.inl ((1 : Int))))))
 (bnd (chk .i64 (x40 - ((1 : Int)))) fun y120 =>
 some (.inl y120))))
 (some (.inr ((.inr (()))))))) ZBa y27)
 (fun (p : (Int) ⊕ (Unit)) => match p with
 | .inl x52 =>
 (some ((.inr x52)))
 | .inr (()) =>
 (some ((.inl (()))))))
 (fun (p : (Unit) ⊕ (Int)) => match p with
 | .inl (()) =>
 (some ((0 : Int)))
 | .inr x39 =>
 (some x39))))
noncomputable def Znf (a : Nat) : Option (Int) :=
 ifb (((((Zg 4294967296 a)).length : Int)) == ((0 : Int)))
 (some ((0 : Int)))
 (bnd (chk .i64 (((((Zg 4294967296 a)).length : Int)) - ((1 : Int)))) fun y15 =>
 bnd (chk .i64 (((32 : Int)) * y15)) fun y17 =>
 bnd (chk .i64 (((((Zg 4294967296 a)).length : Int)) - ((1 : Int)))) fun y23 =>
 bnd (idx ((Zg 4294967296 a)) y23) fun y25 =>
 bnd (bnd (Zna (fun s : Int × Int => match s with
 | (x51, x53) =>
 (ifb (decide ((0 : Int) < x53))
 (bnd (chk .i64 (x51 + ((1 : Int)))) fun y74 =>
 bnd (ZKa .u32 x53 ((1 : Int))) fun y76 =>
 some (.inl ((y74, y76))))
 (some (.inr x51)))) ZBa ((y17, y25)))
 (fun (x57 : Int) =>
 (some x57)))
 (fun (x40 : Int) =>
 (some x40)))
noncomputable def ZFg (x : Rat) : Option (Bool) :=
 some (((((Zg 4294967296 x.num.natAbs)).length : Int)) == ((0 : Int)))
end Go.Eng
namespace Go.Eng
open Go.RowKit
theorem Zxi {v : Ze} {c : List Value} {a : List Int} (h : (ZD (Zb .u32)).rel v c a) : Dig 4294967296 a ∧ a.length ≤ 9223372036854775807 := by
  have hl := ZWg h; rw [ZPb] at hl; refine ⟨?_, by omega⟩; obtain ⟨q, cap, rfl, h1, h2, h3⟩ := h; rcases h3 with rfl | ⟨b, off, cc, T, fr, rfl, hb, hr⟩
  · exact Dig.nil
  · intro x hx; obtain ⟨i, hi⟩ := List.getElem?_of_mem hx; have hg := ZMa hr hi; obtain ⟨_, h4⟩ := hg; have h5 : 0 ≤ x ∧ x ≤ 4294967295 := h4; omega
theorem Zfl {v : Ze} {c : List Value} {n : Nat} (h : ZT.rel v c n) : (Zg 4294967296 n).length ≤ 9223372036854775807 := (Zxi (a := Zg 4294967296 n) h).2
theorem rcut_eq {a : List Int} (ha : Dig 4294967296 a) (hl : a.length ≤ 9223372036854775807) : Z9h a = some (Zg 4294967296 (val 4294967296 a)) := by
  unfold Z9h; rw [Z0a]; refine Zeb (fun s : Int => ∃ k : Nat, s = (k : Int) ∧ k ≤ a.length ∧ val 4294967296 (a.take k) = val 4294967296 a) (fun s => s.toNat)
    (fun r : Int => ∃ k : Nat, r = (k : Int) ∧ k ≤ a.length ∧ val 4294967296 (a.take k) = val 4294967296 a ∧ Cut (a.take k)) ⟨a.length, rfl, by omega, by rw [List.take_length]⟩ (ZZa (by omega)) ?_ ?_
  · rintro s ⟨k, rfl, hk, hv⟩; simp only; by_cases h0 : k = 0
    · right; subst h0; rw [show decide ((0 : Int) < ((0 : Nat) : Int)) = false from rfl, ZY, Zh, ZY]; exact ⟨_, rfl, 0, rfl, by omega, hv, by intro x hx; simp at hx⟩
    · obtain ⟨j, rfl⟩ : ∃ j, k = j + 1 := ⟨k - 1, by omega⟩; have c1 : chk .i64 (((j + 1 : Nat) : Int) - 1) = some (j : Int) := by rw [show ((j + 1 : Nat) : Int) - 1 = (j : Int) by omega, Zgb (by omega)]
      rw [decide_eq_true (by omega), Z1, c1, Zh, Zua (by omega), Zh, Zh]; by_cases hz : a[j]'(by omega) = 0
      · left; rw [show (a[j]'(by omega) == 0) = true by simp [hz], Z1, Zh]; refine ⟨_, rfl, ⟨j, rfl, by omega, ?_⟩, by simp⟩; rw [← hv, ZGb (by omega), hz]; simp
      · right; rw [show (a[j]'(by omega) == 0) = false by simp [hz], ZY]; refine ⟨_, rfl, j + 1, rfl, hk, hv, ?_⟩; intro x hx; rw [List.getLast?_eq_getElem?, List.length_take, Nat.min_eq_left (by omega), Nat.add_sub_cancel, List.getElem?_take_of_lt (by omega), List.getElem?_eq_getElem (by omega)] at hx
        cases hx; exact hz
  · rintro r ⟨k, rfl, hk, hv, hc⟩; rw [Zh]; have e : ZXb a 0 (k : Int) = some (a.take k) := by
      unfold ZXb; rw [if_pos ⟨by omega, by omega, by omega⟩]; simp
    rw [e, Zh, ← hv, Zee (by decide) (ha.take k) hc]
theorem Zkn {n m : Nat} (h1 : (Zg 4294967296 n).length ≤ 9223372036854775807) (h2 : (Zg 4294967296 m).length ≤ 9223372036854775807) : Zai n m = Zve n m := by
  unfold Zai Zve Zhb; by_cases hlt : (Zg 4294967296 n).length < (Zg 4294967296 m).length
  · have := ZXh (by decide) hlt; rw [decide_eq_true (by omega), Z1, if_pos this]
  · by_cases hgt : (Zg 4294967296 m).length < (Zg 4294967296 n).length
    · have := ZXh (by decide) hgt; rw [decide_eq_false (by omega), ZY, decide_eq_true (by omega), Z1, if_neg (by omega), if_pos this]
    · have hl : (Zg 4294967296 n).length = (Zg 4294967296 m).length := by omega
      rw [decide_eq_false (by omega), ZY, decide_eq_false (by omega), ZY, ZJa (by omega) (by omega), Zh]; have hd := Zkb (B := 4294967296) (by decide) n; have hd' := Zkb (B := 4294967296) (by decide) m; have hvn := Zdb (B := 4294967296) (by decide) n; have hvm := Zdb (B := 4294967296) (by decide) m; generalize Zg 4294967296 n = a at *; generalize Zg 4294967296 m = b at *; rw [Z0a, ZRg (r := if n < m then .inl (-1) else if m < n then .inl 1 else .inr ()) (fun s : Int => -1 ≤ s ∧ s < a.length ∧ a.drop (s + 1).toNat = b.drop (s + 1).toNat) (fun s => (s + 1).toNat) ⟨by omega, by omega, ?_⟩ (ZZa (by omega)) ?_]
      · rw [Zh]; by_cases hlt : n < m
        · simp only [if_pos hlt]; rfl
        · by_cases hgt : m < n
          · simp only [if_neg hlt, if_pos hgt]; rfl
          · simp only [if_neg hlt, if_neg hgt]; rfl
      · rw [List.drop_eq_nil_of_le (by omega), List.drop_eq_nil_of_le (by omega)]
      · rintro s ⟨h3, h4, h5⟩; by_cases hs : 0 ≤ s
        · obtain ⟨i, rfl⟩ := Int.eq_ofNat_of_zero_le hs; have hi : i < a.length := by omega
          have hi' : i < b.length := by omega
          have e1 : decide ((0 : Int) ≤ (i : Int)) = true := decide_eq_true hs; simp only [e1, Z1, Zua hi, Zua hi', Zh]; have ei : ((i : Int) + 1).toNat = i + 1 := by omega
          rw [ei] at h5; by_cases hlt : a[i] < b[i]
          · right; have := Zmh hd hd' hl hi h5 hlt; rw [decide_eq_true hlt, Z1, if_pos (by omega)]
          · by_cases hgt : b[i] < a[i]
            · right; have := Zmh hd' hd hl.symm hi' h5.symm hgt; rw [decide_eq_false hlt, ZY, decide_eq_true hgt, Z1, if_neg (by omega), if_pos (by omega)]
            · left; rw [decide_eq_false hlt, ZY, decide_eq_false hgt, ZY, ZJa (by omega) (by omega), Zh]; refine ⟨_, rfl, ⟨by omega, by omega, ?_⟩, by simp⟩; have e2 : ((i : Int) - 1 + 1).toNat = i := by omega
              rw [e2, List.drop_eq_getElem_cons hi, List.drop_eq_getElem_cons hi', h5]; congr 1; omega
        · right; have : s = -1 := by omega
          subst this; simp at h5; have : n = m := by rw [← hvn, ← hvm, h5]
          subst this; simp [ifb]
theorem ZOo {B n k : Nat} (hB : 2 ≤ B) (h0 : n ≠ 0) (hk : (Zg B n).length = k + 1) : (Zg B n)[k]? = some ((n / B ^ k : Nat) : Int) := by
  induction k generalizing n with
  | zero =>
    rw [Znc hB h0] at hk ⊢; have h2 : n / B = 0 := by
      rw [List.length_cons] at hk; exact (Zcf hB).1 (List.eq_nil_of_length_eq_zero (by omega))
    have := Nat.mod_add_div n B; rw [h2] at this; simp at this; simp [this]
  | succ k ih =>
    rw [Znc hB h0] at hk ⊢; rw [List.length_cons] at hk; have h2 : n / B ≠ 0 := by
      intro h2; rw [h2, ZVa] at hk; simp at hk
    rw [List.getElem?_cons_succ, ih h2 (by omega), Nat.div_div_eq_div_mul, Nat.pow_succ, Nat.mul_comm B]
theorem shr_u32 {x k : Nat} (hk : k ≤ 32) : ZKa .u32 (x : Int) (k : Int) = some ((x / 2 ^ k : Nat) : Int) := by
  unfold ZKa; rw [if_neg (by omega)]; have : min ((k : Int).toNat) IntKind.u32.bits = k := by simp [IntKind.bits]; omega
  rw [this, Int.fdiv_eq_ediv_of_nonneg _ (Int.pow_nonneg (by omega))]; simp
theorem ZSi {n : Nat} (h : n ≠ 0) : bl n = bl (n / 2) + 1 := by
  by_cases h1 : n = 1
  · subst h1; decide
  · have := ZBf (n := n) (k := 1) (by omega)
    simpa using this
theorem ZLm {n : Nat} (hn : Z9a n) : Znf n = some (bl n : Int) := by
  unfold Znf; by_cases h0 : n = 0
  · subst h0; rw [ZVa]; rfl
  · obtain ⟨k, hk⟩ : ∃ k, (Zg 4294967296 n).length = k + 1 := by
      have := List.length_pos_iff.2 ((Zmc (n := n) (B := 4294967296) (by decide)).2 h0); exact ⟨(Zg 4294967296 n).length - 1, by omega⟩
    have htop := ZOo (by decide) h0 hk; unfold Z9a at hn; rw [hk] at hn ⊢; have e0 : ((((k + 1 : Nat) : Int)) == (0 : Int)) = false := by simp; omega
    have c1 : chk .i64 (((k + 1 : Nat) : Int) - 1) = some (k : Int) := by rw [show ((k + 1 : Nat) : Int) - 1 = (k : Int) by omega, Zgb (by omega)]
    have c2 : chk .i64 (32 * (k : Int)) = some ((32 * k : Nat) : Int) := by rw [show (32 * (k : Int)) = ((32 * k : Nat) : Int) by omega, Zgb (by omega)]
    have c3 : idx (Zg 4294967296 n) (k : Int) = some ((n / 4294967296 ^ k : Nat) : Int) := by
      simp only [idx, Int.toNat_natCast]; rw [if_pos (by omega)]; exact htop
    rw [e0, ZY, c1, Zh, c2, Zh, Zh, c3, Zh, Z0a]; have hB : n = n := rfl; have hge : 4294967296 ^ k ≤ n := by
      have := ZVf (B := 4294967296) (by decide) h0; rw [hk] at this; simpa using this
    have hlt : n / 4294967296 ^ k < 4294967296 := by
      have := Zqc (B := 4294967296) (by decide) n; rw [hk, Nat.pow_succ] at this; exact Nat.div_lt_of_lt_mul this
    have h2 : (4294967296 : Nat) ^ k = 2 ^ (32 * k) := by rw [Nat.pow_mul]
    have hbl : bl n = bl (n / 4294967296 ^ k) + 32 * k := by rw [h2]; exact ZBf (by rw [← h2]; exact hge)
    rw [hbl]; generalize n / 4294967296 ^ k = t at *; refine Zeb (fun s : Int × Int => ∃ c t' : Nat, s.1 = (c : Int) ∧ s.2 = (t' : Int) ∧ t' < 4294967296 ∧ bl t' + c = bl t + 32 * k ∧ c ≤ 4398046511104 + bl t - bl t' ∧ bl t' ≤ bl t) (fun s => s.2.toNat)
      (fun r : Int => r = ((bl t + 32 * k : Nat) : Int)) ⟨32 * k, t, rfl, rfl, hlt, by omega, by omega, by omega⟩ (ZZa (by simp; omega)) ?_ ?_
    · rintro ⟨c, t'⟩ ⟨c, t', rfl, rfl, h3, h4, h5, h6⟩; simp only; by_cases ht : t' = 0
      · right; subst ht; rw [show decide ((0 : Int) < ((0 : Nat) : Int)) = false from rfl, ZY]; exact ⟨_, rfl, by rw [← h4]; simp [bl]⟩
      · left; have hb := ZSi ht; have hbt : bl t ≤ 32 := Zac (by omega); have c4 : chk .i64 ((c : Int) + 1) = some ((c + 1 : Nat) : Int) := by rw [show (c : Int) + 1 = ((c + 1 : Nat) : Int) by omega, Zgb (by omega)]
        have c5 := shr_u32 (x := t') (k := 1) (by omega); rw [decide_eq_true (by omega), Z1, c4, Zh]; have c6 : ZKa .u32 (t' : Int) 1 = some ((t' / 2 : Nat) : Int) := by simpa using c5
        rw [c6, Zh]; exact ⟨_, rfl, ⟨c + 1, t' / 2, rfl, rfl, by omega, by omega, by omega, by omega⟩, by simp; omega⟩
    · rintro r rfl; rw [Zh]
theorem ZZm {n : Nat} {z : Int} (h : Z8e n = some z) : Znf n = some z := by
  unfold Z8e at h; split at h
  · rename_i hh; rw [ZLm hh, h]
  · cases h
theorem ZKk : ZTc [(1 : Int)] = some 1 := by
  have := Zak 1
  rwa [ZTg (by omega) (by decide)] at this
theorem ZZi {n : Nat} : (((Zg 4294967296 n).length : Int) == 0) = decide (n = 0) := by
  by_cases h : n = 0
  · subst h; rw [ZVa]; rfl
  · have := List.length_pos_iff.2 ((Zmc (n := n) (B := 4294967296) (by decide)).2 h); rw [decide_eq_false h]; exact beq_false_of_ne (by omega)
theorem Zjn {n : Nat} : decide ((0 : Int) < ((Zg 4294967296 n).length : Int)) = decide (n ≠ 0) := by
  by_cases h : n = 0
  · subst h; rw [ZVa]; rfl
  · have := List.length_pos_iff.2 ((Zmc (n := n) (B := 4294967296) (by decide)).2 h); rw [decide_eq_true h, decide_eq_true (by omega)]
theorem Zvl {x : Rat} {z : Bool} (h : Zhg x = some z) : ZFg x = some z := by
  unfold Zhg at h; unfold ZFg; rw [ZZi, ← h]; congr 1; apply decide_eq_decide.2; rw [← Rat.num_eq_zero]; omega
noncomputable def Z4h (n : Int) : Option (Nat) :=
 bnd (ZKa .u64 n ((32 : Int))) fun y6 =>
 bnd (Z4b ([IntKind.u32.wrap n, IntKind.u32.wrap y6])) fun y15 =>
 some y15
noncomputable def Zvf (a : Nat) (b : Nat) : Option (Nat) :=
 bnd (bnd (Zna (fun s : (List Int) × Int × Int => match s with
 | (x65, x73, x75) =>
 (ifb (decide (x75 < (((Zg 4294967296 a)).length : Int)))
 (bnd (idx ((Zg 4294967296 a)) x75) fun y104 =>
 bnd (chk .i64 ((IntKind.i64.wrap y104) - x73)) fun y112 =>
 bnd (ifb (decide (x75 < (((Zg 4294967296 b)).length : Int)))
 (bnd (idx ((Zg 4294967296 b)) x75) fun y178 =>
 bnd (chk .i64 (y112 - (IntKind.i64.wrap y178))) fun y186 =>
 some y186)
 (some y112))
 (fun (x125 : Int) =>
 (bnd (ifb (decide (x125 < (0 : Int)))
 (bnd (chk .i64 (x125 + ((4294967296 : Int)))) fun y175 =>
 some (((1 : Int), y175)))
 (some (((0 : Int), x125))))
 (fun (p : Int × Int) => match p with
 | (x141, x143) =>
 (bnd (Zub 4 (x65 ++ [IntKind.u32.wrap x143])) fun y156 =>
 bnd (chk .i64 (x75 + ((1 : Int)))) fun y170 =>
 some (.inl (((x65 ++ [IntKind.u32.wrap x143]), x141, y170))))))))
 (some (.inr x65)))) ZBa ((([] : (List Int)), (0 : Int), (0 : Int))))
 (fun (x79 : (List Int)) =>
 (some x79)))
 (fun (x26 : (List Int)) =>
 (bnd (Z4b x26) fun y46 =>
 some y46))
noncomputable def Zrg (a : Nat) (b : Nat) : Option (Nat) :=
 bnd (chk .i64 (((((Zg 4294967296 a)).length : Int)) + ((((Zg 4294967296 b)).length : Int)))) fun y11 =>
 bnd (mk 4 y11 y11) fun y13 =>
 bnd (bnd (Zna (fun s : (List Int) × Int => match s with
 | (x73, x81) =>
 (ifb (decide (x81 < (((Zg 4294967296 a)).length : Int)))
 (bnd (bnd (Zna (fun s : (List Int) × Int × Int => match s with
 | (x154, x162, x164) =>
 (ifb (decide (x164 < (((Zg 4294967296 b)).length : Int)))
 (bnd (idx ((Zg 4294967296 a)) x81) fun y195 =>
 bnd (idx ((Zg 4294967296 b)) x164) fun y203 =>
 bnd (chk .i64 (x81 + x164)) fun y211 =>
 bnd (idx x154 y211) fun y213 =>
 bnd (chk .i64 (x81 + x164)) fun y239 =>
 bnd (idx x154 y239) fun y241 =>
 bnd (ZKa .u64 (IntKind.u64.wrap ((IntKind.u64.wrap (x162 + (IntKind.u64.wrap ((IntKind.u64.wrap y195) * (IntKind.u64.wrap y203))))) + (IntKind.u64.wrap y213))) ((32 : Int))) fun y257 =>
 bnd (chk .i64 (x164 + ((1 : Int)))) fun y259 =>
 some (.inl (((x154.set (y239).toNat (IntKind.u32.wrap (IntKind.u64.wrap ((IntKind.u64.wrap (x162 + (IntKind.u64.wrap ((IntKind.u64.wrap y195) * (IntKind.u64.wrap y203))))) + (IntKind.u64.wrap y213))))), y257, y259))))
 (some (.inr ((x154, x162)))))) ZBa ((x73, (0 : Int), (0 : Int))))
 (fun (p : (List Int) × Int) => match p with
 | (x168, x176) =>
 (some ((x168, x176)))))
 (fun (p : (List Int) × Int) => match p with
 | (x115, x123) =>
 (bnd (chk .i64 (x81 + ((((Zg 4294967296 b)).length : Int)))) fun y132 =>
 bnd (idx x115 y132) fun y134 =>
 bnd (chk .i64 (x81 + ((1 : Int)))) fun y152 =>
 some (.inl (((x115.set (y132).toNat (IntKind.u32.wrap x123)), y152))))))
 (some (.inr x73)))) ZBa (((List.replicate (y11).toNat ((0 : Int))), (0 : Int))))
 (fun (x85 : (List Int)) =>
 (some x85)))
 (fun (x34 : (List Int)) =>
 (bnd (Z4b x34) fun y54 =>
 some y54))
noncomputable def Zkg (a : Nat) (n : Int) : Option (Nat) :=
 ifb (((((Zg 4294967296 a)).length : Int)) == ((0 : Int)))
 (some ((0 : Nat)))
 (bnd (quo .i64 n ((32 : Int))) fun y16 =>
 bnd (mk 4 y16 y16) fun y18 =>
 bnd (bnd (Zna (fun s : (List Int) × Int × Int => match s with
 | (x100, x108, x110) =>
 (ifb (decide (x110 < (((Zg 4294967296 a)).length : Int)))
 (bnd (idx ((Zg 4294967296 a)) x110) fun y141 =>
 bnd (rem .i64 n ((32 : Int))) fun y149 =>
 bnd (ZQb .u64 (IntKind.u64.wrap y141) (IntKind.u64.wrap y149)) fun y151 =>
 bnd (Zub 4 (x100 ++ [IntKind.u32.wrap (orI .u64 y151 x108)])) fun y165 =>
 bnd (ZKa .u64 (orI .u64 y151 x108) ((32 : Int))) fun y179 =>
 bnd (chk .i64 (x110 + ((1 : Int)))) fun y181 =>
 some (.inl (((x100 ++ [IntKind.u32.wrap (orI .u64 y151 x108)]), y179, y181))))
 (some (.inr ((x100, x108)))))) ZBa (((List.replicate (y16).toNat ((0 : Int))), (0 : Int), (0 : Int))))
 (fun (p : (List Int) × Int) => match p with
 | (x114, x122) =>
 (some ((x114, x122)))))
 (fun (p : (List Int) × Int) => match p with
 | (x41, x49) =>
 (bnd (Zub 4 (x41 ++ [IntKind.u32.wrap x49])) fun y64 =>
 bnd (Z4b ((x41 ++ [IntKind.u32.wrap x49]))) fun y73 =>
 some y73)))
noncomputable def Zwg (a : Nat) (n : Int) : Option (Nat) :=
 bnd (quo .i64 n ((32 : Int))) fun y21 =>
 bnd (bnd (Zna (fun s : (List Int) × Int => match s with
 | (x63, x71) =>
 (ifb (decide (x71 < (((Zg 4294967296 a)).length : Int)))
 (bnd (idx ((Zg 4294967296 a)) x71) fun y100 =>
 bnd (chk .i64 (x71 + ((1 : Int)))) fun y118 =>
 bnd (ifb (decide (y118 < (((Zg 4294967296 a)).length : Int)))
 (bnd (chk .i64 (x71 + ((1 : Int)))) fun y155 =>
 bnd (idx ((Zg 4294967296 a)) y155) fun y157 =>
 bnd (ZQb .u64 (IntKind.u64.wrap y157) ((32 : Int))) fun y163 =>
 some (orI .u64 (IntKind.u64.wrap y100) y163))
 (some (IntKind.u64.wrap y100)))
 (fun (x121 : Int) =>
 (bnd (rem .i64 n ((32 : Int))) fun y130 =>
 bnd (ZKa .u64 x121 (IntKind.u64.wrap y130)) fun y132 =>
 bnd (Zub 4 (x63 ++ [IntKind.u32.wrap y132])) fun y138 =>
 bnd (chk .i64 (x71 + ((1 : Int)))) fun y152 =>
 some (.inl (((x63 ++ [IntKind.u32.wrap y132]), y152))))))
 (some (.inr x63)))) ZBa ((([] : (List Int)), y21)))
 (fun (x75 : (List Int)) =>
 (some x75)))
 (fun (x24 : (List Int)) =>
 (bnd (Z4b x24) fun y44 =>
 some y44))
noncomputable def Z0f (a : Nat) (b : Int) : Option (Nat × Int) :=
 bnd (mk 4 ((((Zg 4294967296 a)).length : Int)) ((((Zg 4294967296 a)).length : Int))) fun y9 =>
 bnd (chk .i64 (((((Zg 4294967296 a)).length : Int)) - ((1 : Int)))) fun y31 =>
 bnd (bnd (Zna (fun s : (List Int) × Int × Int => match s with
 | (x75, x83, x85) =>
 (ifb (decide ((0 : Int) ≤ x85))
 (bnd (ZQb .u64 x83 ((32 : Int))) fun y116 =>
 bnd (idx ((Zg 4294967296 a)) x85) fun y118 =>
 bnd (quo .u64 (orI .u64 y116 (IntKind.u64.wrap y118)) (IntKind.u64.wrap b)) fun y134 =>
 bnd (idx x75 x85) fun y136 =>
 bnd (rem .u64 (orI .u64 y116 (IntKind.u64.wrap y118)) (IntKind.u64.wrap b)) fun y154 =>
 bnd (chk .i64 (x85 - ((1 : Int)))) fun y156 =>
 some (.inl (((x75.set (x85).toNat (IntKind.u32.wrap y134)), y154, y156))))
 (some (.inr ((x75, x83)))))) ZBa (((List.replicate ((((Zg 4294967296 a)).length : Int)).toNat ((0 : Int))), (0 : Int), y31)))
 (fun (p : (List Int) × Int) => match p with
 | (x89, x97) =>
 (some ((x89, x97)))))
 (fun (p : (List Int) × Int) => match p with
 | (x34, x42) =>
 (bnd (Z4b x34) fun y56 =>
 some ((y56, IntKind.u32.wrap x42))))
end Go.Eng
namespace Go.Eng
open Go.RowKit
theorem wrap_u32 (z : Int) : IntKind.u32.wrap z = z % 4294967296 := by
  simp [IntKind.wrap, IntKind.signed, IntKind.bits]
theorem ZRb {n : Nat} (h : n < 18446744073709551616) : IntKind.u64.wrap (n : Int) = (n : Int) := by rw [wrap_u64]; omega
theorem ZPk {n : Nat} (h : n ≤ 9223372036854775807) : IntKind.i64.wrap (n : Int) = (n : Int) := ZWe (ZPb.2 ⟨by omega, by omega⟩)
theorem Zzo {n : Int} {z : Nat} (hn : inR .u64 n) (h : Z6c n = some z) : Z4h n = some z := by
  unfold Z6c at h; have hn := Zrd.1 hn; obtain ⟨N, rfl⟩ := Int.eq_ofNat_of_zero_le hn.1; unfold Z4h Z4b; have c1 : ZKa .u64 (N : Int) 32 = some ((N / 4294967296 : Nat) : Int) := by
    have := Zmd (x := N) (k := 32) (by omega); exact this
  rw [c1, Zh, Zh, ← h, wrap_u32, wrap_u32]; simp only [val]; congr 1; omega
theorem Zle {α : Type} {b : Nat} {l : List α} (h : l.length * b ≤ 140737488355328) : Zub b l = some () := by unfold Zub; rw [if_pos h]
theorem Z0g {B : Nat} (l : List Int) (x : Int) : val B (l ++ [x]) = val B l + B ^ l.length * x.toNat := by rw [ZDc]; simp [val]
theorem Dig.snoc {B : Nat} {l : List Int} (h : Dig B l) {x : Int} (hx : 0 ≤ x ∧ x < B) : Dig B (l ++ [x]) := Dig.append.2 ⟨h, Dig.cons.2 ⟨hx, Dig.nil⟩⟩
theorem ZId {B : Nat} {l : List Int} (h : Dig B l) {i : Nat} (hi : i < l.length) : ∃ x : Nat, l[i] = (x : Int) ∧ x < B := by
  obtain ⟨X, hX⟩ := Int.eq_ofNat_of_zero_le (h.get hi).1; have := (h.get hi).2; exact ⟨X, hX, by omega⟩
theorem Zrj {σ ρ τ γ : Type} {body : σ → Option (σ ⊕ ρ)} {f : ρ → Option (τ ⊕ γ)} {n : Nat} {s : σ} {J : τ → Prop} (I : σ → Prop) (μ : σ → Nat) (Q : ρ → Prop) (hs : I s) (hn : μ s < n)
    (h : ∀ s, I s → (∃ s', body s = some (.inl s') ∧ I s' ∧ μ s' < μ s) ∨ ∃ r, body s = some (.inr r) ∧ Q r) (hf : ∀ r, Q r → ∃ t, f r = some (.inl t) ∧ J t) : ∃ t, bnd (Zna body n s) f = some (.inl t) ∧ J t := by
  obtain ⟨r, e, hq⟩ := Z5g I μ Q h n s hs hn; rw [e]; exact hf r hq
theorem rdif_eq {n m : Nat} (hn : Z9a n) (hm : m ≤ n) : Zvf n m = some (n - m) := by
  unfold Zvf; have hl := ZFc (B := 4294967296) (by decide) hm; have hdx := Zkb (B := 4294967296) (by decide) n; have hdy := Zkb (B := 4294967296) (by decide) m; have hvx := Zdb (B := 4294967296) (by decide) n; have hvy := Zdb (B := 4294967296) (by decide) m; unfold Z9a at hn; generalize Zg 4294967296 n = a at *; generalize Zg 4294967296 m = b at *; rw [Z0a]; refine Zeb (fun s : (List Int) × Int × Int => ∃ k c : Nat, s.2.2 = (k : Int) ∧ s.2.1 = (c : Int) ∧ k ≤ a.length ∧ s.1.length = k ∧ Dig 4294967296 s.1 ∧ c ≤ 1 ∧
    val 4294967296 s.1 + val 4294967296 (b.take k) = val 4294967296 (a.take k) + 4294967296 ^ k * c) (fun s => a.length - s.2.2.toNat)
    (fun r : List Int => val 4294967296 r = n - m)
    ⟨0, 0, rfl, rfl, by omega, rfl, Dig.nil, by omega, by simp [val]⟩ (ZZa (by simp; omega)) ?_ ?_
  · rintro ⟨out, c, i⟩ ⟨k, c, rfl, rfl, hk, ho, hd, hc, hv⟩; simp only at ho hd hc hv ⊢; by_cases hlt : k < a.length
    · left; obtain ⟨x, hx, hx'⟩ := ZId hdx hlt; rw [decide_eq_true (by omega), Z1, Zua hlt, Zh, hx, ZPk (by omega), ZJa (by omega) (by omega), Zh]; obtain ⟨y, hy', hvb, hf⟩ : ∃ y : Nat, y < 4294967296 ∧ val 4294967296 (b.take (k + 1)) = val 4294967296 (b.take k) + 4294967296 ^ k * y ∧
          ifb (decide ((k : Int) < (b.length : Int))) (bnd (idx b (k : Int)) fun y178 => bnd (chk .i64 ((x : Int) - (c : Int) - (IntKind.i64.wrap y178))) fun y186 => some y186) (some ((x : Int) - (c : Int))) = some ((x : Int) - (c : Int) - (y : Int)) := by
        by_cases hb : k < b.length
        · obtain ⟨y, hy, hy'⟩ := ZId hdy hb; refine ⟨y, hy', ?_, ?_⟩
          · rw [ZGb hb, hy]; rfl
          · rw [decide_eq_true (by omega), Z1, Zua hb, Zh, hy, ZPk (by omega), ZJa (by omega) (by omega), Zh]
        · refine ⟨0, by omega, ?_, ?_⟩
          · rw [List.take_of_length_le (by omega), List.take_of_length_le (by omega)]; simp
          · rw [decide_eq_false (by omega), ZY]; simp
      rw [hf, Zh]; obtain ⟨d, c', hd', hc', e, hg⟩ : ∃ d c' : Nat, d < 4294967296 ∧ c' ≤ 1 ∧ d + y + c = x + 4294967296 * c' ∧
          ifb (decide ((x : Int) - (c : Int) - (y : Int) < 0)) (bnd (chk .i64 ((x : Int) - (c : Int) - (y : Int) + 4294967296)) fun y175 => some ((1 : Int), y175)) (some ((0 : Int), (x : Int) - (c : Int) - (y : Int))) = some ((c' : Int), (d : Int)) := by
        by_cases h : (x : Int) - c - y < 0
        · refine ⟨x + 4294967296 - c - y, 1, by omega, by omega, by omega, ?_⟩; rw [decide_eq_true h, Z1, ZJa (by omega) (by omega), Zh]; congr 2; omega
        · refine ⟨x - c - y, 0, by omega, by omega, by omega, ?_⟩; rw [decide_eq_false h, ZY]; congr 2; omega
      rw [hg, Zh]; simp only; have ew : IntKind.u32.wrap (d : Int) = (d : Int) := by rw [wrap_u32]; omega
      rw [ew, Zle (by simp; omega), Zh, ZJa (by omega) (by omega), Zh]; refine ⟨_, rfl, ⟨k + 1, c', by simp, rfl, by omega, by simp [ho], hd.snoc (by omega), hc', ?_⟩, by simp; omega⟩; simp only [Z0g, ho, Int.toNat_natCast]; rw [ZGb hlt, hx, hvb, Nat.pow_succ]; simp only [Int.toNat_natCast]; exact Zjj hv e
    · right; rw [decide_eq_false (by omega), ZY]; refine ⟨_, rfl, ?_⟩; have hk' : k = a.length := by omega
      subst hk'; rw [List.take_length, List.take_of_length_le hl, hvx, hvy] at hv; have hlt2 := Z4c hd; rw [ho] at hlt2; have : c = 0 := by
        have h1 : c = 0 ∨ c = 1 := by omega
        rcases h1 with rfl | rfl
        · rfl
        · omega
      subst this; omega
  · rintro out hv; rw [Zh]; unfold Z4b; rw [hv, Zh]
theorem ZHn {n m z : Nat} (h : ZEd n m = some z) : Zvf n m = some z := by
  unfold ZEd at h; split at h
  · rename_i hh; rw [rdif_eq hh.1 hh.2, h]
  · cases h
theorem ZBl {n m : Nat} (hn : Z9a n) (hm : Z9a m) : Zrg n m = some (n * m) := by
  unfold Zrg; have hdx := Zkb (B := 4294967296) (by decide) n; have hdy := Zkb (B := 4294967296) (by decide) m; have hvx := Zdb (B := 4294967296) (by decide) n; have hvy := Zdb (B := 4294967296) (by decide) m; unfold Z9a at hn hm; generalize Zg 4294967296 n = a at *; generalize Zg 4294967296 m = b at *; rw [ZJa (by omega) (by omega), Zh]; obtain ⟨u, hu⟩ := ZGc (b := 4) (l := (a.length : Int) + b.length) (c := (a.length : Int) + b.length) (by omega) (by omega) (by omega) (by omega); rw [hu, Zh, Z0a]; have e0 : ((a.length : Int) + b.length).toNat = a.length + b.length := by omega
  rw [e0]; refine Zeb (fun s : (List Int) × Int => ∃ k : Nat, s.2 = (k : Int) ∧ k ≤ a.length ∧ s.1.length = a.length + b.length ∧ Dig 4294967296 s.1 ∧
    val 4294967296 s.1 = val 4294967296 (a.take k) * val 4294967296 b ∧ ∀ j (h : j < s.1.length), k + b.length ≤ j → s.1[j] = 0) (fun s => a.length - s.2.toNat)
    (fun r : List Int => val 4294967296 r = n * m) ⟨0, rfl, by omega, by simp, Dig.replicate _ (by omega), by simp [val, ZYh], by simp⟩ (ZZa (by simp; omega)) ?_ ?_
  · rintro ⟨out, i⟩ ⟨k, rfl, hk, ho, hd, hv, hz⟩; simp only at ho hd hv hz ⊢; by_cases hlt : k < a.length
    · left; obtain ⟨X, hX, hX'⟩ := ZId hdx hlt; rw [decide_eq_true (by omega), Z1, Z0a]; refine Zrj (s := (out, (0 : Int), (0 : Int))) (fun s : (List Int) × Int × Int => ∃ q c : Nat, s.2.2 = (q : Int) ∧ s.2.1 = (c : Int) ∧ q ≤ b.length ∧ s.1.length = a.length + b.length ∧ Dig 4294967296 s.1 ∧ c < 4294967296 ∧
          val 4294967296 s.1 + 4294967296 ^ (k + q) * c = val 4294967296 (a.take k) * val 4294967296 b + 4294967296 ^ k * X * val 4294967296 (b.take q) ∧ ∀ j (h : j < s.1.length), k + b.length ≤ j → s.1[j] = 0)
        (fun s => b.length - s.2.2.toNat)
        (fun r : List Int × Int => ∃ c : Nat, r.2 = (c : Int) ∧ r.1.length = a.length + b.length ∧ Dig 4294967296 r.1 ∧ c < 4294967296 ∧
          val 4294967296 r.1 + 4294967296 ^ (k + b.length) * c = val 4294967296 (a.take k) * val 4294967296 b + 4294967296 ^ k * X * val 4294967296 b ∧ ∀ j (h : j < r.1.length), k + b.length ≤ j → r.1[j] = 0)
        ⟨0, 0, rfl, rfl, by omega, ho, hd, by omega, (show val 4294967296 out + 4294967296 ^ (k + 0) * 0 = val 4294967296 (a.take k) * val 4294967296 b + 4294967296 ^ k * X * val 4294967296 (b.take 0) by simp [val, hv]), hz⟩ (ZZa (by simp; omega)) ?_ ?_
      · rintro ⟨o, c, i⟩ ⟨q, c, rfl, rfl, hq, ho2, hd2, hc, hv2, hz2⟩; simp only at ho2 hd2 hc hv2 hz2 ⊢; by_cases hqlt : q < b.length
        · left; obtain ⟨Y, hY, hY'⟩ := ZId hdy hqlt; have hkq : k + q < o.length := by omega
          obtain ⟨T, hT, hT'⟩ := ZId hd2 hkq; have eck : chk .i64 ((k : Int) + (q : Int)) = some ((k + q : Nat) : Int) := by rw [← Int.natCast_add, Zgb (by omega)]
          have hxy : X * Y ≤ 18446744065119617025 := Nat.mul_le_mul (show X ≤ 4294967295 by omega) (show Y ≤ 4294967295 by omega); have e1 : IntKind.u64.wrap ((X : Int) * (Y : Int)) = ((X * Y : Nat) : Int) := by rw [← Int.natCast_mul, ZRb (by omega)]
          have e2 : IntKind.u64.wrap ((c : Int) + ((X * Y : Nat) : Int)) = ((c + X * Y : Nat) : Int) := by rw [← Int.natCast_add, ZRb (by omega)]
          have e3 : IntKind.u64.wrap (((c + X * Y : Nat) : Int) + (T : Int)) = ((c + X * Y + T : Nat) : Int) := by rw [← Int.natCast_add, ZRb (by omega)]
          have e4 : ZKa .u64 ((c + X * Y + T : Nat) : Int) 32 = some (((c + X * Y + T) / 4294967296 : Nat) : Int) := Zmd (x := c + X * Y + T) (k := 32) (by omega); have e5 : IntKind.u32.wrap ((c + X * Y + T : Nat) : Int) = (((c + X * Y + T) % 4294967296 : Nat) : Int) := by rw [wrap_u32]; omega
          rw [decide_eq_true (by omega), Z1, Zua hlt, Zh, Zua hqlt, Zh, eck, Zh, Zua hkq, Zh, Zh, Zua hkq, Zh, hX, hY, hT, ZRb (by omega), ZRb (by omega), ZRb (by omega), e1, e2, e3, e4, Zh, ZJa (by omega) (by omega), Zh, e5]; refine ⟨_, rfl, ⟨q + 1, (c + X * Y + T) / 4294967296, by simp, rfl, by omega, by simp [ho2], hd2.set _ (by omega), by omega, ?_, ?_⟩, by simp; omega⟩
          · simp only [Int.toNat_natCast]; have hs := Zbf (B := 4294967296) (l := o) (i := k + q) (x := (((c + X * Y + T) % 4294967296 : Nat) : Int)) hkq; rw [hT] at hs; simp only [Int.toNat_natCast] at hs; rw [ZGb hqlt, hY]; simp only [Int.toNat_natCast]; rw [show k + (q + 1) = k + q + 1 by omega, Nat.pow_succ]; exact ZHj hv2 hs (by omega) (Nat.pow_add _ _ _)
          · intro j hj hj2; simp only [Int.toNat_natCast] at hj ⊢; rw [List.getElem_set_ne (by omega)]; exact hz2 j (by simpa using hj) hj2
        · right; rw [decide_eq_false (by omega), ZY]; have hq' : q = b.length := by omega
          subst hq'; rw [List.take_length] at hv2; exact ⟨_, rfl, c, rfl, ho2, hd2, hc, hv2, hz2⟩
      · rintro ⟨o, c⟩ ⟨c, rfl, ho2, hd2, hc, hv2, hz2⟩; simp only at ho2 hd2 hc hv2 hz2 ⊢; rw [Zh]; simp only; have eck : chk .i64 ((k : Int) + (b.length : Int)) = some ((k + b.length : Nat) : Int) := by rw [← Int.natCast_add, Zgb (by omega)]
        have hkb : k + b.length < o.length := by omega
        have ew : IntKind.u32.wrap (c : Int) = (c : Int) := by rw [wrap_u32]; omega
        rw [eck, Zh, Zua hkb, Zh, ZJa (by omega) (by omega), Zh, ew]; refine ⟨_, rfl, ⟨k + 1, by simp, by omega, by simp [ho2], hd2.set _ (by omega), ?_, ?_⟩, by simp; omega⟩
        · have hs := Zbf (B := 4294967296) (l := o) (i := k + b.length) (x := (c : Int)) hkb; rw [hz2 _ hkb (by omega)] at hs; simp only [Int.toNat_natCast] at hs ⊢; rw [ZGb hlt, hX]; simp only [Int.toNat_natCast]; simp at hs; rw [hs, hv2]; grind
        · intro j hj hj2; simp only [Int.toNat_natCast] at hj ⊢; rw [List.getElem_set_ne (by omega)]; exact hz2 j (by simpa using hj) (by omega)
    · right; rw [decide_eq_false (by omega), ZY]; have hk' : k = a.length := by omega
      subst hk'; rw [List.take_length, hvx, hvy] at hv; exact ⟨_, rfl, hv⟩
  · rintro out hv; rw [Zh]; unfold Z4b; rw [hv, Zh]
theorem Zfm {n m z : Nat} (h : Zif n m = some z) : Zrg n m = some z := by
  unfold Zif at h; split at h
  · rename_i hh; rw [ZBl hh.1 hh.2, h]
  · cases h
theorem Zko {n k : Nat} (hn : Z9a n) (hk : k ≤ 1099511627776) : Zkg n (k : Int) = some (n * 2 ^ k) := by
  unfold Zkg; rw [ZZi]; by_cases h0 : n = 0
  · subst h0; rw [show decide ((0 : Nat) = 0) = true from rfl, Z1, Nat.zero_mul]
  rw [decide_eq_false h0, ZY]; have hdx := Zkb (B := 4294967296) (by decide) n; have hvx := Zdb (B := 4294967296) (by decide) n; unfold Z9a at hn; generalize Zg 4294967296 n = a at *; obtain ⟨w, hw⟩ : ∃ w, w = k / 32 := ⟨_, rfl⟩; obtain ⟨s, hs⟩ : ∃ s, s = k % 32 := ⟨_, rfl⟩; have hks : k = 32 * w + s := by omega
  have eq32 : quo .i64 (k : Int) 32 = some (w : Int) := by have := ZUg (p := k) (q := 32) (by omega) (by omega); rw [← hw] at this; exact this
  have er32 : rem .i64 (k : Int) 32 = some (s : Int) := by have := Zce (k := .i64) (p := k) (q := 32) (by omega); rw [← hs] at this; exact this
  have hR : 4294967296 ^ w * 2 ^ s = 2 ^ k := by
    rw [show (4294967296 : Nat) = 2 ^ 32 from rfl, ← Nat.pow_mul, ← Nat.pow_add, ← hks]
  have h2s : 2 ^ s ≤ 2147483648 := Nat.le_trans (Nat.pow_le_pow_right (by omega) (show s ≤ 31 by omega)) (by decide); obtain ⟨u, hu⟩ := ZGc (b := 4) (l := (w : Int)) (c := (w : Int)) (by omega) (by omega) (by omega) (by omega); rw [eq32, Zh, hu, Zh, Z0a, Int.toNat_natCast]; refine Zeb (fun st : (List Int) × Int × Int => ∃ i c : Nat, st.2.2 = (i : Int) ∧ st.2.1 = (c : Int) ∧ i ≤ a.length ∧ st.1.length = w + i ∧ Dig 4294967296 st.1 ∧ c < 2 ^ s ∧
    val 4294967296 st.1 + 4294967296 ^ (w + i) * c = val 4294967296 (a.take i) * 2 ^ k) (fun st => a.length - st.2.2.toNat)
    (fun r : List Int × Int => ∃ c : Nat, r.2 = (c : Int) ∧ c < 2 ^ s ∧ r.1.length = w + a.length ∧ val 4294967296 r.1 + 4294967296 ^ r.1.length * c = n * 2 ^ k)
    ⟨0, 0, rfl, rfl, by omega, by simp, Dig.replicate _ (by omega), Nat.pow_pos (by omega), by simp [val, ZYh]⟩ (ZZa (by simp; omega)) ?_ ?_
  · rintro ⟨out, c, i⟩ ⟨i, c, rfl, rfl, hi, ho, hd, hc, hv⟩; simp only at ho hd hc hv ⊢; by_cases hlt : i < a.length
    · left; obtain ⟨x, hx, hx'⟩ := ZId hdx hlt; have hxs : x * 2 ^ s ≤ 4294967295 * 2 ^ s := Nat.mul_le_mul_right _ (by omega); have hlt64 : x * 2 ^ s + c < 4294967296 * 2 ^ s := by omega
      have h64 : 4294967296 * 2 ^ s ≤ 9223372036854775808 := by omega
      have e1 : ZQb .u64 (x : Int) (s : Int) = some ((x * 2 ^ s : Nat) : Int) := by rw [ZKd (by omega), Nat.mod_eq_of_lt (by omega)]
      have e2 : orI .u64 ((x * 2 ^ s : Nat) : Int) (c : Int) = ((x * 2 ^ s + c : Nat) : Int) := Zme hc (by omega); rw [decide_eq_true (by omega), Z1, Zua hlt, Zh, er32, Zh, hx, ZRb (by omega), ZRb (by omega), e1, Zh, e2]; obtain ⟨v, hv1⟩ : ∃ v, v = x * 2 ^ s + c := ⟨_, rfl⟩; rw [← hv1] at hlt64 ⊢; have e3 : IntKind.u32.wrap (v : Int) = ((v % 4294967296 : Nat) : Int) := by rw [wrap_u32]; omega
      have e4 : ZKa .u64 (v : Int) 32 = some ((v / 4294967296 : Nat) : Int) := Zmd (x := v) (k := 32) (by omega); rw [e3, Zle (by simp; omega), Zh, e4, Zh, ZJa (by omega) (by omega), Zh]; refine ⟨_, rfl, ⟨i + 1, v / 4294967296, by simp, rfl, by omega, by simp [ho]; omega, hd.snoc (by omega), ?_, ?_⟩, by simp; omega⟩
      · omega
      · simp only [Z0g, ho, Int.toNat_natCast]; rw [ZGb hlt, hx, Nat.add_mul, ← Nat.add_assoc w i 1, Nat.pow_succ]; simp only [Int.toNat_natCast]; have h1 : 4294967296 ^ i * x * 2 ^ k = 4294967296 ^ (w + i) * (x * 2 ^ s) := by rw [← hR, Nat.pow_add]; grind
        rw [h1, ← hv, Nat.add_assoc]; have h2 : v = v % 4294967296 + 4294967296 * (v / 4294967296) := by omega
        have h3 : 4294967296 ^ (w + i) * v = 4294967296 ^ (w + i) * (v % 4294967296) + 4294967296 ^ (w + i) * 4294967296 * (v / 4294967296) := by
          conv => lhs; rw [h2]
          rw [Nat.mul_add, Nat.mul_assoc]
        rw [Nat.add_assoc, ← h3, hv1, Nat.mul_add]; omega
    · right; rw [decide_eq_false (by omega), ZY]; have hi' : i = a.length := by omega
      subst hi'; rw [List.take_length, hvx] at hv; exact ⟨_, rfl, c, rfl, hc, ho, by simp only; rw [ho]; exact hv⟩
  · rintro ⟨out, c⟩ ⟨c, rfl, hc, hl, hv⟩; simp only at hl hv ⊢; rw [Zh]; simp only; have e1 : IntKind.u32.wrap (c : Int) = (c : Int) := by rw [wrap_u32]; omega
    rw [e1, Zle (by simp; omega), Zh]; unfold Z4b; rw [Zh, Z0g, Int.toNat_natCast, hv]
theorem Zhm {n z : Nat} {k : Int} (h : ZFd n k = some z) : Zkg n k = some z := by
  unfold ZFd at h; split at h
  · rename_i hh; obtain ⟨K, rfl⟩ := Int.eq_ofNat_of_zero_le hh.2.1; rw [Zko hh.1 (by omega), ← h]; rfl
  · cases h
theorem Zql {n d : Nat} (hn : Z9a n) (hd0 : 0 < d) (hd1 : d < 4294967296) : Z0f n (d : Int) = some (n / d, ((n % d : Nat) : Int)) := by
  unfold Z0f; have hdx := Zkb (B := 4294967296) (by decide) n; have hvx := Zdb (B := 4294967296) (by decide) n; unfold Z9a at hn; generalize Zg 4294967296 n = a at *; obtain ⟨u, hu⟩ := ZGc (b := 4) (l := (a.length : Int)) (c := (a.length : Int)) (by omega) (by omega) (by omega) (by omega); rw [hu, Zh, ZJa (by omega) (by omega), Zh, Z0a, Int.toNat_natCast]; refine Zeb (fun st : (List Int) × Int × Int => ∃ k r : Nat, st.2.2 = (k : Int) - 1 ∧ st.2.1 = (r : Int) ∧ k ≤ a.length ∧ st.1.length = a.length ∧ Dig 4294967296 st.1 ∧ r < d ∧
    val 4294967296 (a.drop k) = val 4294967296 (st.1.drop k) * d + r) (fun st => (st.2.2 + 1).toNat)
    (fun st : List Int × Int => ∃ r : Nat, st.2 = (r : Int) ∧ r < d ∧ n = val 4294967296 st.1 * d + r)
    ⟨a.length, 0, rfl, rfl, by omega, by simp, Dig.replicate _ (by omega), hd0, by simp [List.drop_eq_nil_of_le, val]⟩ (ZZa (by simp; omega)) ?_ ?_
  · rintro ⟨out, r, i⟩ ⟨k, r, hi, rfl, hk, ho, hd, hr, hv⟩; simp only at hi ho hd hr hv ⊢; subst hi; by_cases h0 : k = 0
    · right; subst h0; rw [show decide ((0 : Int) ≤ ((0 : Nat) : Int) - 1) = false from rfl, ZY]; rw [List.drop_zero, List.drop_zero, hvx] at hv; exact ⟨_, rfl, r, rfl, hr, hv⟩
    · left; obtain ⟨j, rfl⟩ : ∃ j, k = j + 1 := ⟨k - 1, by omega⟩; have ej : ((j + 1 : Nat) : Int) - 1 = (j : Int) := by omega
      rw [ej]; have hja : j < a.length := by omega
      have hjo : j < out.length := by omega
      obtain ⟨x, hx, hx'⟩ := ZId hdx hja; have e1 : ZQb .u64 (r : Int) 32 = some ((r * 2 ^ 32 : Nat) : Int) := by
        have := ZKd (x := r) (k := 32) (by omega); rw [Nat.mod_eq_of_lt (by omega)] at this; exact this
      have e2 : orI .u64 ((r * 2 ^ 32 : Nat) : Int) (x : Int) = ((r * 2 ^ 32 + x : Nat) : Int) := Zme (k := 32) (by omega) (by omega); obtain ⟨v, hv1⟩ : ∃ v, v = r * 2 ^ 32 + x := ⟨_, rfl⟩; have hvlt : v < d * 4294967296 := by omega
      have hq : v / d < 4294967296 := (Nat.div_lt_iff_lt_mul hd0).2 (by rw [Nat.mul_comm]; exact hvlt); have hm := Nat.mod_lt v hd0; have hdm := Nat.div_add_mod v d; have e3 : quo .u64 (v : Int) (d : Int) = some ((v / d : Nat) : Int) := ZHe hd0 (by omega); have e4 : rem .u64 (v : Int) (d : Int) = some ((v % d : Nat) : Int) := Zce hd0; rw [decide_eq_true (by omega), Z1, e1, Zh, Zua hja, Zh, hx, ZRb (by omega), ZRb (by omega), e2, ← hv1, e3, Zh, Zua hjo, Zh, e4, Zh, ZJa (by omega) (by omega), Zh]; generalize v / d = q at *; generalize v % d = r' at *; have e5 : IntKind.u32.wrap (q : Int) = (q : Int) := by rw [wrap_u32]; omega
      rw [e5]; refine ⟨_, rfl, ⟨j, r', rfl, rfl, by omega, by simp [ho], hd.set _ (by omega), hm, ?_⟩, by simp⟩; simp only [Int.toNat_natCast]; have e6 : (out.set j (q : Int)).drop j = (q : Int) :: out.drop (j + 1) := by
        rw [List.drop_eq_getElem_cons (by simpa using hjo), List.getElem_set_self, List.drop_set_of_lt (by omega)]
      rw [e6, Zgc hja, hx, hv]; simp only [val, Int.toNat_natCast]; have : 4294967296 * (val 4294967296 (out.drop (j + 1)) * d + r) + x = 4294967296 * val 4294967296 (out.drop (j + 1)) * d + v := by rw [hv1]; grind
      grind
  · rintro ⟨out, r⟩ ⟨r, rfl, hr, hv⟩; simp only at hr hv ⊢; rw [Zh]; simp only; unfold Z4b; have e1 : IntKind.u32.wrap (r : Int) = (r : Int) := by rw [wrap_u32]; omega
    rw [Zh, e1, hv]; have h1 : (val 4294967296 out * d + r) / d = val 4294967296 out := by
      rw [Nat.mul_comm, Nat.mul_add_div hd0, Nat.div_eq_of_lt hr, Nat.add_zero]
    have h2 : (val 4294967296 out * d + r) % d = r := by
      rw [Nat.mul_comm, Nat.mul_add_mod, Nat.mod_eq_of_lt hr]
    rw [h1, h2]
theorem Z4l {n : Nat} {d : Int} {z : Nat × Int} (hd : inR .u32 d) (h : Zqf n d = some z) : Z0f n d = some z := by
  unfold Zqf at h; split at h
  · rename_i hh; have hd : 0 ≤ d ∧ d ≤ 4294967295 := hd; obtain ⟨D, rfl⟩ := Int.eq_ofNat_of_zero_le hd.1; rw [Zql hh.1 (by omega) (by omega), ← h]; rfl
  · cases h
theorem ZRn {v R s : Nat} (hs : s ≤ 31) : (v + 18446744073709551616 * R) / 2 ^ s % 4294967296 = v / 2 ^ s % 4294967296 := by
  have e : 18446744073709551616 * R = 2 ^ s * (4294967296 * (2 ^ (32 - s) * R)) := by
    have : (18446744073709551616 : Nat) = 2 ^ s * (4294967296 * 2 ^ (32 - s)) := by
      rw [show (4294967296 : Nat) = 2 ^ 32 from rfl, ← Nat.pow_add, ← Nat.pow_add, show s + (32 + (32 - s)) = 64 by omega]
    rw [this, Nat.mul_assoc, Nat.mul_assoc]
  rw [e, Nat.add_mul_div_left _ _ (Nat.pow_pos (by omega)), Nat.add_mul_mod_self_left]
theorem ZRm (T B j : Nat) : T % B ^ (j + 1) = T % B ^ j + B ^ j * (T / B ^ j % B) := by
  rw [Nat.pow_succ, Nat.mod_mul]
theorem ZXk {B n : Nat} (hB : 2 ≤ B) (w : Nat) : val B ((Zg B n).drop w) = n / B ^ w := by
  induction w generalizing n with
  | zero => rw [List.drop_zero, Zdb hB, Nat.pow_zero, Nat.div_one]
  | succ w ih =>
    by_cases h : n = 0
    · subst h; rw [ZVa]; simp [val]
    · rw [Znc hB h, List.drop_succ_cons, ih, Nat.div_div_eq_div_mul, Nat.pow_succ, Nat.mul_comm B]
theorem ZBm {n k : Nat} (hn : Z9a n) (hk : k ≤ 9223372036854775807) : Zwg n (k : Int) = some (n / 2 ^ k) := by
  unfold Zwg; have hdx := Zkb (B := 4294967296) (by decide) n; have hdv : ∀ w, val 4294967296 ((Zg 4294967296 n).drop w) = n / 4294967296 ^ w := ZXk (by decide); unfold Z9a at hn; generalize Zg 4294967296 n = a at *; obtain ⟨w, hw⟩ : ∃ w, w = k / 32 := ⟨_, rfl⟩; obtain ⟨s, hs⟩ : ∃ s, s = k % 32 := ⟨_, rfl⟩; have hks : k = 32 * w + s := by omega
  have eq32 : quo .i64 (k : Int) 32 = some (w : Int) := by have := ZUg (p := k) (q := 32) (by omega) (by omega); rw [← hw] at this; exact this
  have er32 : rem .i64 (k : Int) 32 = some (s : Int) := by have := Zce (k := .i64) (p := k) (q := 32) (by omega); rw [← hs] at this; exact this
  have hR : 4294967296 ^ w * 2 ^ s = 2 ^ k := by
    rw [show (4294967296 : Nat) = 2 ^ 32 from rfl, ← Nat.pow_mul, ← Nat.pow_add, ← hks]
  have hlen : ∀ j, a.length ≤ w + j → n / 4294967296 ^ (w + j) = 0 := by
    intro j hj; rw [← hdv, List.drop_eq_nil_of_le hj]; rfl
  rw [eq32, Zh, Z0a]; refine Zeb (fun st : (List Int) × Int => ∃ j : Nat, st.2 = ((w + j : Nat) : Int) ∧ (j = 0 ∨ w + j ≤ a.length) ∧ st.1.length = j ∧ Dig 4294967296 st.1 ∧ val 4294967296 st.1 = n / 2 ^ k % 4294967296 ^ j) (fun st => a.length - st.2.toNat)
    (fun r : List Int => val 4294967296 r = n / 2 ^ k) ⟨0, rfl, .inl rfl, rfl, Dig.nil, by simp [val, Nat.mod_one]⟩ (ZZa (by simp; omega)) ?_ ?_
  · rintro ⟨out, i⟩ ⟨j, rfl, hj, ho, hd, hv⟩; simp only at ho hd hv ⊢; have hT : n / 2 ^ k / 4294967296 ^ j = n / 4294967296 ^ (w + j) / 2 ^ s := by
      rw [Nat.div_div_eq_div_mul, Nat.div_div_eq_div_mul, ← hR, Nat.pow_add]; congr 1; grind
    by_cases hlt : w + j < a.length
    · left; obtain ⟨x, hx, hx'⟩ := ZId hdx hlt; have c1 : chk .i64 (((w + j : Nat) : Int) + 1) = some ((w + j + 1 : Nat) : Int) := by rw [show ((w + j : Nat) : Int) + 1 = ((w + j + 1 : Nat) : Int) by omega, Zgb (by omega)]
      obtain ⟨v, R, hv1, hv2, hf⟩ : ∃ v R : Nat, v < 18446744073709551616 ∧ n / 4294967296 ^ (w + j) = v + 18446744073709551616 * R ∧
          ifb (decide (((w + j + 1 : Nat) : Int) < (a.length : Int))) (bnd (chk .i64 (((w + j : Nat) : Int) + 1)) fun y155 => bnd (idx a y155) fun y157 => bnd (ZQb .u64 (IntKind.u64.wrap y157) 32) fun y163 => some (orI .u64 (x : Int) y163)) (some (x : Int)) = some (v : Int) := by
        rw [← hdv, Zgc hlt, hx]; simp only [Int.toNat_natCast]; by_cases h : w + j + 1 < a.length
        · obtain ⟨y, hy, hy'⟩ := ZId hdx h; refine ⟨x + 4294967296 * y, val 4294967296 (a.drop (w + j + 1 + 1)), by omega, ?_, ?_⟩
          · rw [Zgc h, hy]; simp only [Int.toNat_natCast]; omega
          · have e1 : ZQb .u64 (y : Int) 32 = some ((y * 2 ^ 32 : Nat) : Int) := by
              have := ZKd (x := y) (k := 32) (by omega); rw [Nat.mod_eq_of_lt (by omega)] at this; exact this
            have e2 : orI .u64 (x : Int) ((y * 2 ^ 32 : Nat) : Int) = ((x + 4294967296 * y : Nat) : Int) := by
              have hc : orI .u64 (x : Int) ((y * 2 ^ 32 : Nat) : Int) = orI .u64 ((y * 2 ^ 32 : Nat) : Int) (x : Int) := by unfold orI; rw [BitVec.or_comm]
              rw [hc, Zme (k := 32) (by omega) (by omega)]; exact congrArg (fun q : Nat => (q : Int)) (by omega)
            rw [decide_eq_true (by omega), Z1, c1, Zh, Zua h, Zh, hy, ZRb (by omega), e1, Zh, e2]
        · refine ⟨x, 0, by omega, ?_, ?_⟩
          · rw [List.drop_eq_nil_of_le (by omega)]; simp [val]
          · rw [decide_eq_false (by omega), ZY]
      rw [c1] at hf; rw [decide_eq_true (by omega), Z1, Zua hlt, Zh, c1, Zh, hx, ZRb (by omega), hf, Zh, er32, Zh, ZRb (by omega), Zmd (by omega), Zh]; have e3 : IntKind.u32.wrap ((v / 2 ^ s : Nat) : Int) = ((v / 2 ^ s % 4294967296 : Nat) : Int) := by rw [wrap_u32]; omega
      rw [e3, Zle (by simp; omega), Zh, Zh]; refine ⟨_, rfl, ⟨j + 1, by simp only; omega, .inr (by omega), by simp [ho], hd.snoc (by omega), ?_⟩, by simp; omega⟩; simp only [Z0g, ho, Int.toNat_natCast]; rw [ZRm, hv, hT, hv2, ZRn (by omega)]
    · right; rw [decide_eq_false (by omega), ZY]; refine ⟨_, rfl, ?_⟩; rw [hv]; apply Nat.mod_eq_of_lt; have h0 : n / 2 ^ k / 4294967296 ^ j = 0 := by rw [hT, hlen j (by omega), Nat.zero_div]
      rcases (Nat.div_eq_zero_iff).1 h0 with h | h
      · exact absurd h (Nat.pos_iff_ne_zero.1 (Nat.pow_pos (by omega)))
      · exact h
  · rintro out hv; rw [Zh]; unfold Z4b; rw [hv, Zh]
theorem Zcn {n z : Nat} {k : Int} (hk : inR .i64 k) (h : ZNe n k = some z) : Zwg n k = some z := by
  unfold ZNe at h; split at h
  · rename_i hh; have hk := ZPb.1 hk; obtain ⟨K, rfl⟩ := Int.eq_ofNat_of_zero_le hh.2; rw [ZBm hh.1 (by omega), ← h]; rfl
  · cases h
def Zlb (n : Nat) : Prop := (Zg 4294967296 n).length ≤ 68719476736
instance (n : Nat) : Decidable (Zlb n) := inferInstanceAs (Decidable (_ ≤ _))
def ZRc (n m : Nat) : Option (Nat × Nat) := if Zlb n ∧ Zlb m ∧ m ≠ 0 then some (n / m, n % m) else none
def rgcF (n m : Nat) : Option Nat := if Zlb n ∧ Zlb m then some (Nat.gcd n m) else none
def ZTd (s : Bool) (n d : Nat) : Option Rat := if Zlb n ∧ Zlb d ∧ d ≠ 0 then some (mkRat (sgn s n) d) else none
def Z9d (x : Rat) : Option (List UInt8) := if okQ x then some (txtQ x) else none
def Z2e (n : Nat) : Option (List UInt8) := if okN n then some (Zkc n) else none
def ZXe (s : List UInt8) (c : Int) : Option (List UInt8) := if 0 ≤ c ∧ s.length * c.toNat ≤ 140737488355328 then some (List.replicate c.toNat s).flatten else none
noncomputable def Zeg (a : Nat) (b : Nat) : Option (Nat × Nat) :=
 bnd (Zve a b) fun y13 =>
 ifb (decide (y13 < (0 : Int)))
 (some (((0 : Nat), a)))
 (ifb (((((Zg 4294967296 b)).length : Int)) == ((1 : Int)))
 (bnd (idx ((Zg 4294967296 b)) ((0 : Int))) fun y35 =>
 bnd (Zqf a y35) fun y43 =>
 bnd (Z6c (IntKind.u64.wrap y43.2)) fun y73 =>
 some ((y43.1, y73)))
 (bnd (chk .i64 (((32 : Int)) * ((((Zg 4294967296 b)).length : Int)))) fun y91 =>
 bnd (Z8e b) fun y93 =>
 bnd (chk .i64 (y91 - y93)) fun y100 =>
 bnd (ZFd b y100) fun y109 =>
 bnd (ZFd a y100) fun y118 =>
 bnd (chk .i64 (((((Zg 4294967296 a)).length : Int)) - ((((Zg 4294967296 y109)).length : Int)))) fun y145 =>
 bnd (chk .i64 (y145 + ((2 : Int)))) fun y147 =>
 bnd (mk 4 y147 y147) fun y149 =>
 bnd (chk .i64 (((((List.replicate (y147).toNat ((0 : Int)))).length : Int)) - ((1 : Int)))) fun y169 =>
 bnd (bnd (Zna (fun s : Nat × (List Int) × Int => match s with
 | (x232, x237, x245) =>
 (ifb (decide ((0 : Int) ≤ x245))
 (bnd (bnd (ifb (decide (x245 < (((Zg 4294967296 x232)).length : Int)))
 (bnd (ZXb ((Zg 4294967296 x232)) x245 ((((Zg 4294967296 x232)).length : Int))) fun y654 =>
 some y654)
 (some (([] : (List Int)))))
 (fun (x315 : (List Int)) =>
 (bnd (ZTc x315) fun y331 =>
 bnd (Zve y331 y109) fun y334 =>
 ifb (decide (y334 < (0 : Int)))
 (some ((x232, x237)))
 (bnd (chk .i64 (((((Zg 4294967296 y109)).length : Int)) - ((1 : Int)))) fun y350 =>
 bnd (idx x315 y350) fun y352 =>
 bnd (ifb (decide ((((Zg 4294967296 y109)).length : Int) < (x315.length : Int)))
 (bnd (idx x315 ((((Zg 4294967296 y109)).length : Int))) fun y641 =>
 bnd (ZQb .u64 (IntKind.u64.wrap y641) ((32 : Int))) fun y647 =>
 some (orI .u64 (IntKind.u64.wrap y352) y647))
 (some (IntKind.u64.wrap y352)))
 (fun (x371 : Int) =>
 (bnd (chk .i64 (((((Zg 4294967296 y109)).length : Int)) - ((1 : Int)))) fun y382 =>
 bnd (idx ((Zg 4294967296 y109)) y382) fun y384 =>
 bnd (quo .u64 x371 (IntKind.u64.wrap y384)) fun y392 =>
 bnd (ifb (decide ((4294967295 : Int) < y392))
 (some ((4294967295 : Int)))
 (some y392))
 (fun (x405 : Int) =>
 (bnd (Z6c x405) fun y416 =>
 bnd (Zif y109 y416) fun y425 =>
 bnd (bnd (Zna (fun s : Int × Nat => match s with
 | (x575, x577) =>
 (bnd (ZTc x315) fun y603 =>
 bnd (Zve x577 y603) fun y606 =>
 ifb (decide ((0 : Int) < y606))
 (bnd (ZEd x577 y109) fun y622 =>
 some (.inl ((IntKind.u64.wrap (x575 - ((1 : Int))), y622))))
 (some (.inr ((x575, x577)))))) ZBa ((x405, y425)))
 (fun (p : Int × Nat) => match p with
 | (x584, x586) =>
 (some ((x584, x586)))))
 (fun (p : Int × Nat) => match p with
 | (x451, x453) =>
 (bnd (idx x237 x245) fun y467 =>
 bnd (ZXb ((Zg 4294967296 x232)) ((0 : Int)) x245) fun y491 =>
 bnd (Zub 4 (([] : (List Int)) ++ y491)) fun y497 =>
 bnd (ZTc x315) fun y505 =>
 bnd (ZEd y505 x453) fun y508 =>
 bnd (Zub 4 ((([] : (List Int)) ++ y491) ++ ((Zg 4294967296 y508)))) fun y517 =>
 bnd (Z4b (((([] : (List Int)) ++ y491) ++ ((Zg 4294967296 y508))))) fun y556 =>
 some ((y556, (x237.set (x245).toNat (IntKind.u32.wrap x451))))))))))))))
 (fun (p : Nat × (List Int)) => match p with
 | (x278, x283) =>
 (bnd (chk .i64 (x245 - ((1 : Int)))) fun y298 =>
 some (.inl ((x278, x283, y298))))))
 (some (.inr ((x232, x237)))))) ZBa ((y118, (List.replicate (y147).toNat ((0 : Int))), y169)))
 (fun (p : Nat × (List Int)) => match p with
 | (x249, x254) =>
 (some ((x249, x254)))))
 (fun (p : Nat × (List Int)) => match p with
 | (x172, x177) =>
 (bnd (Z4b x177) fun y197 =>
 bnd (ZNe x172 y100) fun y206 =>
 some ((y197, y206))))))
theorem Zri {B n : Nat} (hB : 2 ≤ B) (w : Nat) : (Zg B n).drop w = Zg B (n / B ^ w) := by
  induction w generalizing n with
  | zero => rw [List.drop_zero, Nat.pow_zero, Nat.div_one]
  | succ w ih =>
    by_cases h : n = 0
    · subst h; rw [ZVa, Nat.zero_div, ZVa]; rfl
    · rw [Znc hB h, List.drop_succ_cons, ih, Nat.div_div_eq_div_mul, Nat.pow_succ, Nat.mul_comm B]
theorem ZKn {B n : Nat} (hB : 2 ≤ B) (w : Nat) (h : w ≤ (Zg B n).length) : val B ((Zg B n).take w) = n % B ^ w := by
  have h1 := ZXc B (Zg B n) w h; rw [Zdb hB, ZXk hB] at h1; have h2 := Nat.mod_add_div n (B ^ w); omega
theorem ZKi {B n i : Nat} (hB : 2 ≤ B) (h : i < (Zg B n).length) : idx (Zg B n) (i : Int) = some ((n / B ^ i % B : Nat) : Int) := by
  rw [Zua h]; congr 1; have h1 := List.drop_eq_getElem_cons h; rw [Zri hB] at h1; have h2 : n / B ^ i ≠ 0 := by
    intro h2; rw [h2, ZVa] at h1
    cases h1
  rw [Znc hB h2] at h1; exact (List.cons.inj h1).1.symm
theorem Zyo {B n L : Nat} (hB : 2 ≤ B) (h1 : B ^ L ≤ n) (h2 : n < B ^ (L + 1)) : (Zg B n).length = L + 1 := by
  have h3 := Zhe hB h2; have h4 := Zqc hB n; have h5 : ¬ (Zg B n).length ≤ L := by
    intro h5; have := Nat.pow_le_pow_right (n := B) (by omega) h5; omega
  omega
theorem ZPj {n m : Nat} : decide (Zhb n m < 0) = decide (n < m) := by
  unfold Zhb; by_cases h : n < m
  · rw [if_pos h, decide_eq_true h]; rfl
  · rw [if_neg h, decide_eq_false h]; split <;> rfl
theorem cmpN_gt {n m : Nat} : decide (0 < Zhb n m) = decide (m < n) := by
  unfold Zhb; by_cases h : n < m
  · rw [if_pos h, decide_eq_false (show ¬ m < n by omega)]; rfl
  · rw [if_neg h]; by_cases h2 : m < n
    · rw [if_pos h2, decide_eq_true h2]; rfl
    · rw [if_neg h2, decide_eq_false h2]; rfl
theorem ZXf {n k : Nat} (h : n < 4294967296 ^ k) : (Zg 4294967296 n).length ≤ k := Zhe (by decide) h
theorem quo_end {a b q R rest : Nat} (hb : 0 < b) (hR : 0 < R) (h : rest < b * R) (e : a * R = rest + b * R * q) : q = a / b ∧ rest / R = a % b := by
  have h1 : a * R / (b * R) = q := by rw [e, Nat.add_mul_div_left _ _ (Nat.mul_pos hb hR), Nat.div_eq_of_lt h, Nat.zero_add]
  rw [Nat.mul_div_mul_right _ _ hR] at h1; have h2 : a * R % (b * R) = rest := by rw [e, Nat.add_mul_mod_self_left, Nat.mod_eq_of_lt h]
  rw [Nat.mul_mod_mul_right] at h2; exact ⟨h1.symm, by rw [← h2, Nat.mul_div_cancel _ hR]⟩
theorem Zxm {a b : Nat} (ha : Zlb a) (hb : Zlb b) (hb0 : b ≠ 0) : Zeg a b = some (a / b, a % b) := by
  unfold Zeg Zve; rw [Zh, ZPj]; by_cases hab : a < b
  · rw [decide_eq_true hab, Z1, Nat.div_eq_of_lt hab, Nat.mod_eq_of_lt hab]
  rw [decide_eq_false hab, ZY]; unfold Zlb at ha hb; have hLpos := List.length_pos_iff.2 ((Zmc (n := b) (B := 4294967296) (by decide)).2 hb0); by_cases hL1 : (Zg 4294967296 b).length = 1
  · rw [hL1]; have hb1 : b < 4294967296 := by
      have := Zqc (B := 4294967296) (by decide) b; rw [hL1] at this; simpa using this
    rw [show (((1 : Nat) : Int) == 1) = true from rfl, Z1, Zji (by decide) hb0 hb1, Zh]; unfold Zqf Z6c; rw [if_pos ⟨by unfold Z9a; omega, by omega⟩, Zh]; simp only [Int.toNat_natCast]; have hm := Nat.mod_lt a (Nat.pos_of_ne_zero hb0); rw [ZRb (by omega), Int.toNat_natCast]; rfl
  have e1 : (((Zg 4294967296 b).length : Int) == 1) = false := beq_false_of_ne (by omega); rw [e1, ZY]; obtain ⟨l, hl⟩ : ∃ l, (Zg 4294967296 b).length = l + 1 := ⟨(Zg 4294967296 b).length - 1, by omega⟩; have hbge : 4294967296 ^ l ≤ b := by have := ZVf (B := 4294967296) (by decide) hb0; rw [hl] at this; simpa using this
  have hblt : b < 4294967296 ^ (l + 1) := by have := Zqc (B := 4294967296) (by decide) b; rwa [hl] at this
  have hp : ∀ k, (4294967296 : Nat) ^ k = 2 ^ (32 * k) := fun k => by rw [Nat.pow_mul]
  obtain ⟨c, hc⟩ := Zse hb0; obtain ⟨hc1, hc2⟩ := (ZWd hb0).1 hc; have hcl : 32 * l ≤ c := by
    have h1 : 2 ^ (32 * l) < 2 ^ (c + 1) := by rw [← hp]; omega
    have := (Nat.pow_lt_pow_iff_right (by omega : 1 < 2)).1 h1; omega
  have hcu : c + 1 ≤ 32 * (l + 1) := by
    have h1 : 2 ^ c < 2 ^ (32 * (l + 1)) := by rw [← hp]; omega
    have := (Nat.pow_lt_pow_iff_right (by omega : 1 < 2)).1 h1; omega
  obtain ⟨up, hup⟩ : ∃ up, up + (c + 1) = 32 * (l + 1) := ⟨32 * (l + 1) - (c + 1), by omega⟩; have hup31 : up ≤ 31 := by omega
  have hR : 0 < 2 ^ up := Nat.pow_pos (by omega); have hR31 : 2 ^ up ≤ 2147483648 := Nat.le_trans (Nat.pow_le_pow_right (by omega) hup31) (by decide); have c1 : chk .i64 (32 * ((l + 1 : Nat) : Int)) = some ((32 * (l + 1) : Nat) : Int) := by rw [show (32 * ((l + 1 : Nat) : Int)) = ((32 * (l + 1) : Nat) : Int) by omega, Zgb (by omega)]
  have c2 : Z8e b = some (((c + 1 : Nat)) : Int) := by unfold Z8e; rw [if_pos (by unfold Z9a; omega), hc]
  have c3 : chk .i64 (((32 * (l + 1) : Nat) : Int) - ((c + 1 : Nat) : Int)) = some (up : Int) := by rw [show ((32 * (l + 1) : Nat) : Int) - ((c + 1 : Nat) : Int) = (up : Int) by omega, Zgb (by omega)]
  have c4 : ZFd b (up : Int) = some (b * 2 ^ up) := by unfold ZFd; rw [if_pos ⟨by unfold Z9a; omega, by omega, by omega⟩, Int.toNat_natCast]
  have c5 : ZFd a (up : Int) = some (a * 2 ^ up) := by unfold ZFd; rw [if_pos ⟨by unfold Z9a; omega, by omega, by omega⟩, Int.toNat_natCast]
  rw [hl, c1, Zh, c2, Zh, c3, Zh, c4, Zh, c5, Zh]; have hv1 : 2 ^ (32 * l + 31) ≤ b * 2 ^ up := by
    have h1 := Nat.mul_le_mul_right (2 ^ up) hc1; rw [← Nat.pow_add] at h1; have h2 : c + up = 32 * l + 31 := by omega
    rw [h2] at h1; exact h1
  have hv2 : b * 2 ^ up < 4294967296 ^ (l + 1) := by
    have h1 := Nat.mul_lt_mul_of_pos_right hc2 hR; rw [← Nat.pow_add] at h1; have h2 : c + 1 + up = 32 * (l + 1) := by omega
    rw [h2, ← hp] at h1; exact h1
  have hvge : 4294967296 ^ l * 2147483648 ≤ b * 2 ^ up := by
    rw [hp, show (2147483648 : Nat) = 2 ^ 31 from rfl, ← Nat.pow_add]; exact hv1
  have hdm : ∀ n q : Nat, q ≠ 0 → n = q * (n / q) + n % q ∧ n % q < q := fun n q h => ⟨(Nat.div_add_mod n q).symm, Nat.mod_lt _ (by omega)⟩; obtain ⟨v, hv⟩ : ∃ v, v = b * 2 ^ up := ⟨_, rfl⟩; rw [← hv] at hv1 hv2 hvge ⊢; have hBl : 0 < 4294967296 ^ l := Nat.pow_pos (by omega); have hlv : (Zg 4294967296 v).length = l + 1 := Zyo (by decide) (by omega) hv2; have hv0 : 0 < v := by omega
  obtain ⟨M, hM⟩ : ∃ M, M = (Zg 4294967296 a).length := ⟨_, rfl⟩; have hML : l + 1 ≤ M := by rw [hM, ← hl]; exact ZFc (by decide) (by omega)
  have haM : a < 4294967296 ^ M := by rw [hM]; exact Zqc (by decide) a
  rw [hlv, ← hM]; rw [← hM] at ha; have c6 : chk .i64 ((M : Int) - ((l + 1 : Nat) : Int)) = some ((M - (l + 1) : Nat) : Int) := by rw [show (M : Int) - ((l + 1 : Nat) : Int) = ((M - (l + 1) : Nat) : Int) by omega, Zgb (by omega)]
  obtain ⟨K, hK⟩ : ∃ K, K + (l + 1) = M + 2 := ⟨M - (l + 1) + 2, by omega⟩; have c7 : chk .i64 (((M - (l + 1) : Nat) : Int) + 2) = some (K : Int) := by rw [show ((M - (l + 1) : Nat) : Int) + 2 = (K : Int) by omega, Zgb (by omega)]
  obtain ⟨u, hu⟩ := ZGc (b := 4) (l := (K : Int)) (c := (K : Int)) (by omega) (by omega) (by omega) (by omega); rw [c6, Zh, c7, Zh, hu, Zh, Int.toNat_natCast, List.length_replicate, ZJa (by omega) (by omega), Zh, Z0a]; obtain ⟨ra, hra⟩ : ∃ ra, ra = a * 2 ^ up := ⟨_, rfl⟩; rw [← hra]; have hraM : ra < 4294967296 ^ (M + 1) := by
    rw [hra, Nat.pow_succ]; exact Nat.mul_lt_mul'' haM (by omega)
  have hra0 : ra < v * 4294967296 ^ K := by
    have h1 : 4294967296 ^ l * 2147483648 * 4294967296 ^ K ≤ v * 4294967296 ^ K := Nat.mul_le_mul_right _ hvge; have h2 : 4294967296 ^ l * 2147483648 * 4294967296 ^ K = 4294967296 ^ (M + 1) * 2147483648 := by
      rw [Nat.mul_right_comm, ← Nat.pow_add, show l + K = M + 1 by omega]
    omega
  refine Zeb (fun s : Nat × (List Int) × Int => ∃ k : Nat, s.2.2 = (k : Int) - 1 ∧ k ≤ K ∧ s.2.1.length = K ∧ Dig 4294967296 s.2.1 ∧ (∀ i (h : i < s.2.1.length), i < k → s.2.1[i] = 0) ∧
      s.1 < v * 4294967296 ^ k ∧ s.1 ≤ ra ∧ ra = s.1 + v * (4294967296 ^ k * val 4294967296 (s.2.1.drop k))) (fun s => (s.2.2 + 1).toNat)
    (fun r : Nat × List Int => r.1 < v ∧ r.1 ≤ ra ∧ ra = r.1 + v * val 4294967296 r.2) ⟨K, rfl, by omega, by simp, Dig.replicate _ (by omega), by intro i h _; simp, hra0, Nat.le_refl _, by simp [List.drop_eq_nil_of_le, val]⟩ (ZZa (by simp; omega)) ?_ ?_
  · rintro ⟨rest, out, j⟩ ⟨k, hj, hk, ho, hd, hz, hlt, hle, he⟩; simp only at hj ho hd hz hlt hle he ⊢; subst hj; by_cases hk0 : k = 0
    · right; subst hk0; rw [show decide ((0 : Int) ≤ ((0 : Nat) : Int) - 1) = false from rfl, ZY]; refine ⟨_, rfl, by simpa using hlt, hle, by simpa using he⟩
    left; obtain ⟨j, rfl⟩ : ∃ j, k = j + 1 := ⟨k - 1, by omega⟩; have ej : ((j + 1 : Nat) : Int) - 1 = (j : Int) := by omega
    rw [ej, decide_eq_true (show (0 : Int) ≤ (j : Int) by omega), Z1]; have hjo : j < out.length := by omega
    have cA : ifb (decide ((j : Int) < ((Zg 4294967296 rest).length : Int))) (bnd (ZXb (Zg 4294967296 rest) (j : Int) ((Zg 4294967296 rest).length : Int)) fun y654 => some y654) (some ([] : List Int)) = some (Zg 4294967296 (rest / 4294967296 ^ j)) := by
      rw [← Zri (by decide)]; by_cases h : j < (Zg 4294967296 rest).length
      · rw [decide_eq_true (by omega), Z1]; have : ZXb (Zg 4294967296 rest) (j : Int) ((Zg 4294967296 rest).length : Int) = some ((Zg 4294967296 rest).drop j) := by
          unfold ZXb; rw [if_pos ⟨by omega, by omega, by omega⟩]; simp
        rw [this, Zh]
      · rw [decide_eq_false (by omega), ZY, List.drop_eq_nil_of_le (by omega)]
    rw [cA, Zh, Zak, Zh, Zh, ZPj]; obtain ⟨p, hpp⟩ : ∃ p, p = rest / 4294967296 ^ j := ⟨_, rfl⟩; rw [← hpp]; have hBj : 0 < 4294967296 ^ j := Nat.pow_pos (by omega); have hrp := Nat.div_add_mod rest (4294967296 ^ j); have hrm := Nat.mod_lt rest hBj; rw [← hpp] at hrp; have hpv : p < v * 4294967296 := by
      rw [hpp, Nat.div_lt_iff_lt_mul hBj]; rw [Nat.pow_succ] at hlt; rw [Nat.mul_assoc, Nat.mul_comm 4294967296]; exact hlt
    have cz : out[j] = 0 := hz j hjo (by omega); have hdrop : val 4294967296 (out.drop j) = 4294967296 * val 4294967296 (out.drop (j + 1)) := by rw [Zgc hjo, cz]; simp
    have cend : chk .i64 ((j : Int) - 1) = some ((j : Int) - 1) := ZJa (by omega) (by omega); by_cases hpl : p < v
    · rw [decide_eq_true hpl, Z1, Zh]; simp only; rw [cend, Zh]; refine ⟨_, rfl, ⟨j, rfl, by omega, ho, hd, fun i h hi => hz i h (by omega), ?_, hle, ?_⟩, by simp⟩
      · have := Nat.mul_le_mul_left (4294967296 ^ j) (show p + 1 ≤ v by omega); rw [Nat.mul_add, Nat.mul_comm (4294967296 ^ j) v] at this; simp only; omega
      · simp only; rw [hdrop, he, Nat.pow_succ]; grind
    rw [decide_eq_false hpl, ZY]; have hp1 : p < 4294967296 ^ (l + 1 + 1) := by
      rw [Nat.pow_succ]; exact Nat.lt_trans hpv (Nat.mul_lt_mul_of_pos_right hv2 (by omega))
    have hplen1 := ZXf hp1; have hplen0 : l + 1 ≤ (Zg 4294967296 p).length := by rw [← hlv]; exact ZFc (by decide) (by omega)
    have cl : chk .i64 (((l + 1 : Nat) : Int) - 1) = some (l : Int) := by rw [show ((l + 1 : Nat) : Int) - 1 = (l : Int) by omega, Zgb (by omega)]
    rw [cl, Zh, ZKi (by decide) (by omega : l < (Zg 4294967296 p).length), Zh]; obtain ⟨h, hh⟩ : ∃ h, h = p / 4294967296 ^ l := ⟨_, rfl⟩; have hh64 : h < 18446744073709551616 := by
      rw [hh]; apply Nat.div_lt_of_lt_mul; rw [Nat.pow_succ, Nat.pow_succ] at hp1; rw [show (18446744073709551616 : Nat) = 4294967296 * 4294967296 from rfl, ← Nat.mul_assoc]; exact hp1
    rw [← hh]; have cH : ifb (decide (((l + 1 : Nat) : Int) < ((Zg 4294967296 p).length : Int))) (bnd (idx (Zg 4294967296 p) ((l + 1 : Nat) : Int)) fun y641 => bnd (ZQb .u64 (IntKind.u64.wrap y641) 32) fun y647 => some (orI .u64 (IntKind.u64.wrap ((h % 4294967296 : Nat) : Int)) y647)) (some (IntKind.u64.wrap ((h % 4294967296 : Nat) : Int))) = some (h : Int) := by
      rw [ZRb (by omega)]; have hhd : p / 4294967296 ^ (l + 1) = h / 4294967296 := by rw [hh, Nat.div_div_eq_div_mul, Nat.pow_succ]
      by_cases hq : l + 1 < (Zg 4294967296 p).length
      · rw [decide_eq_true (by omega), Z1, ZKi (by decide) hq, Zh, hhd, ZRb (by omega)]; have hx : h / 4294967296 % 4294967296 = h / 4294967296 := Nat.mod_eq_of_lt (by omega); rw [hx]; have e1 : ZQb .u64 ((h / 4294967296 : Nat) : Int) 32 = some ((h / 4294967296 * 2 ^ 32 : Nat) : Int) := by
          have := ZKd (x := h / 4294967296) (k := 32) (by omega); rw [Nat.mod_eq_of_lt (by omega)] at this; exact this
        have e2 : orI .u64 ((h % 4294967296 : Nat) : Int) ((h / 4294967296 * 2 ^ 32 : Nat) : Int) = (h : Int) := by
          have hc : orI .u64 ((h % 4294967296 : Nat) : Int) ((h / 4294967296 * 2 ^ 32 : Nat) : Int) = orI .u64 ((h / 4294967296 * 2 ^ 32 : Nat) : Int) ((h % 4294967296 : Nat) : Int) := by unfold orI; rw [BitVec.or_comm]
          rw [hc, Zme (k := 32) (by omega) (by omega)]; exact congrArg (fun q : Nat => (q : Int)) (by omega)
        rw [e1, Zh, e2]
      · rw [decide_eq_false (by omega), ZY]; have h0 : p / 4294967296 ^ (l + 1) = 0 := Nat.div_eq_of_lt (by
          have := Zqc (B := 4294967296) (by decide) p; have e : (Zg 4294967296 p).length = l + 1 := by omega
          rwa [e] at this)
        rw [hhd] at h0; exact congrArg (fun q : Nat => some (q : Int)) (by omega)
    rw [cH, Zh, Zh, ZKi (by decide) (by omega : l < (Zg 4294967296 v).length), Zh]; obtain ⟨t, ht⟩ : ∃ t, t = v / 4294967296 ^ l := ⟨_, rfl⟩; have ht1 : 2147483648 ≤ t := by rw [ht, Nat.le_div_iff_mul_le hBl, Nat.mul_comm]; exact hvge
    have ht2 : t < 4294967296 := by rw [ht]; apply Nat.div_lt_of_lt_mul; rw [Nat.pow_succ] at hv2; exact hv2
    rw [← ht, Nat.mod_eq_of_lt ht2, ZRb (by omega), ZHe (by omega) hh64, Zh]; have hq0 : p / v ≤ h / t := by
      rw [hh, ht, Nat.div_div_eq_div_mul]; apply Nat.div_le_div_left
      · exact Nat.mul_div_le v (4294967296 ^ l)
      · exact Nat.mul_pos hBl (by rw [← ht]; omega)
    have hqB : p / v < 4294967296 := (Nat.div_lt_iff_lt_mul hv0).2 (by rw [Nat.mul_comm]; exact hpv); obtain ⟨q, hq⟩ : ∃ q, q = p / v := ⟨_, rfl⟩; rw [← hq] at hq0 hqB; have hpq := Nat.div_add_mod p v; have hpr := Nat.mod_lt p hv0; rw [← hq] at hpq; obtain ⟨g, hg1, hg2, cG⟩ : ∃ g : Nat, q ≤ g ∧ g < 4294967296 ∧ ifb (decide ((4294967295 : Int) < ((h / t : Nat) : Int))) (some (4294967295 : Int)) (some ((h / t : Nat) : Int)) = some (g : Int) := by
      by_cases hx : 4294967295 < h / t
      · exact ⟨4294967295, by omega, by omega, by rw [decide_eq_true (by omega), Z1]; rfl⟩
      · exact ⟨h / t, hq0, by omega, by rw [decide_eq_false (by omega), ZY]⟩
    have okp : ∀ n, n < 4294967296 ^ (l + 1 + 1) → Z9a n := fun n hn => by unfold Z9a; have := ZXf hn; omega
    have hvg : ∀ x, x < 4294967296 → v * x < 4294967296 ^ (l + 1 + 1) := fun x hx => by rw [Nat.pow_succ]; exact Nat.mul_lt_mul'' hv2 hx
    have okg : Z9a g := by
      unfold Z9a; have := ZXf (n := g) (k := 1) (by simpa using hg2); omega
    have okv : Z9a v := by unfold Z9a; omega
    have cN : Z6c (g : Int) = some g := by unfold Z6c; rw [Int.toNat_natCast]
    have cP : Zif v g = some (v * g) := by unfold Zif; rw [if_pos ⟨okv, okg⟩]
    rw [cG, Zh, cN, Zh, cP, Zh, Z0a, Z0a]; refine Zrj (s := ((g : Int), v * g)) (fun s : Int × Nat => ∃ x : Nat, s.1 = (x : Int) ∧ s.2 = v * x ∧ q ≤ x ∧ x < 4294967296) (fun s => s.1.toNat) (fun r : Int × Nat => r = ((q : Int), v * q)) ⟨g, rfl, rfl, hg1, hg2⟩ (ZZa (by simp; omega)) ?_ ?_
    · rintro ⟨x, y⟩ ⟨x, rfl, rfl, hx1, hx2⟩; simp only; rw [Zh, Zh, cmpN_gt]; by_cases hxp : p < v * x
      · left; have hx0 : q < x := by
          rcases Nat.lt_or_ge q x with h' | h'
          · exact h'
          · have := Nat.mul_le_mul_left v h'; omega
        have cD : ZEd (v * x) v = some (v * (x - 1)) := by
          unfold ZEd; have hle : v * 1 ≤ v * x := Nat.mul_le_mul_left v (by omega); rw [if_pos ⟨okp _ (hvg x hx2), by omega⟩, Nat.mul_sub, Nat.mul_one]
        have cW : IntKind.u64.wrap ((x : Int) - 1) = ((x - 1 : Nat) : Int) := by rw [show (x : Int) - 1 = ((x - 1 : Nat) : Int) by omega, ZRb (by omega)]
        rw [decide_eq_true hxp, Z1, cD, Zh, cW]; exact ⟨_, rfl, ⟨x - 1, rfl, rfl, by omega, by omega⟩, by simp; omega⟩
      · right; have hxq : x = q := by
          have h1 : x ≤ p / v := (Nat.le_div_iff_mul_le hv0).2 (by rw [Nat.mul_comm]; omega); omega
        subst hxq; rw [decide_eq_false hxp, ZY]; exact ⟨_, rfl, rfl⟩
    · rintro _ rfl; rw [Zh]; simp only; have hjr : j < (Zg 4294967296 rest).length := by
        rcases Nat.lt_or_ge j (Zg 4294967296 rest).length with h' | h'
        · exact h'
        · have h1 : (Zg 4294967296 rest).drop j = [] := List.drop_eq_nil_of_le h'; rw [Zri (by decide), ← hpp] at h1; have := (Zcf (B := 4294967296) (by decide)).1 h1; omega
      have hrl : (Zg 4294967296 rest).length ≤ M + 1 := by
        have := ZFc (B := 4294967296) (by decide) hle; have := ZXf hraM; omega
      have cC : ZXb (Zg 4294967296 rest) 0 (j : Int) = some ((Zg 4294967296 rest).take j) := by
        unfold ZXb; rw [if_pos ⟨by omega, by omega, by omega⟩]; simp
      obtain ⟨r, hr⟩ : ∃ r, r = p % v := ⟨_, rfl⟩; rw [← hr] at hpq hpr; have cD : ZEd p (v * q) = some r := by
        unfold ZEd; rw [if_pos ⟨okp p hp1, by omega⟩]; exact congrArg some (by omega)
      have htl : ((Zg 4294967296 rest).take j).length = j := by rw [List.length_take]; omega
      have hrlen : (Zg 4294967296 r).length ≤ l + 1 := by rw [← hlv]; exact ZFc (by decide) (by omega)
      rw [Zua hjo, Zh, cC, Zh, Zle (by simp only [List.nil_append, htl]; omega), Zh, Zh, cD, Zh, Zle (by simp only [List.nil_append, List.length_append, htl]; omega), Zh]; unfold Z4b; rw [Zh, Zh, List.nil_append, ZDc, htl, Zdb (by decide), ZKn (by decide) _ (by omega)]; have cW : IntKind.u32.wrap (q : Int) = (q : Int) := by rw [wrap_u32]; omega
      rw [cW, Int.toNat_natCast]; simp only; rw [cend, Zh]; have hnew : rest % 4294967296 ^ j + 4294967296 ^ j * r + v * (4294967296 ^ j * q) = rest := by
        rw [← hrp, ← hpq]; grind
      refine ⟨_, rfl, ⟨j, rfl, by omega, by simp [ho], hd.set _ (by omega), fun i hi hij => ?_, ?_, ?_, ?_⟩, by simp⟩
      · simp only at hi ⊢; rw [List.getElem_set_ne (by omega)]; exact hz i (by simpa using hi) (by omega)
      · simp only; have := Nat.mul_le_mul_left (4294967296 ^ j) (show r + 1 ≤ v by omega); rw [Nat.mul_add, Nat.mul_comm (4294967296 ^ j) v] at this; omega
      · simp only; omega
      · simp only; have e6 : (out.set j (q : Int)).drop j = (q : Int) :: out.drop (j + 1) := by
          rw [List.drop_eq_getElem_cons (by simpa using hjo), List.getElem_set_self, List.drop_set_of_lt (by omega)]
        rw [e6]; simp only [val, Int.toNat_natCast]; rw [he]
        conv => lhs; rw [← hnew]
        rw [Nat.pow_succ]; grind
  · rintro ⟨rest, out⟩ ⟨h1, h2, h3⟩; simp only at h1 h2 h3 ⊢; rw [Zh]; simp only; unfold Z4b; have hrl : (Zg 4294967296 rest).length ≤ M + 1 := by
      have := ZFc (B := 4294967296) (by decide) h2; have := ZXf hraM; omega
    have cL : ZNe rest (up : Int) = some (rest / 2 ^ up) := by unfold ZNe; rw [if_pos ⟨by unfold Z9a; omega, by omega⟩, Int.toNat_natCast]
    rw [Zh, cL, Zh]; rw [hv] at h1 h3; rw [hra] at h3; obtain ⟨e1, e2⟩ := quo_end (Nat.pos_of_ne_zero hb0) hR h1 h3; rw [e1, e2]
theorem ZLn {n m : Nat} {z : Nat × Nat} (h : ZRc n m = some z) : Zeg n m = some z := by
  unfold ZRc at h; split at h
  · rename_i hh; rw [Zxm hh.1 hh.2.1 hh.2.2, h]
  · cases h
noncomputable def ZZf (a : Nat) (b : Nat) : Option (Nat) :=
 bnd (bnd (Zna (fun s : Nat × Nat => match s with
 | (x26, x31) =>
 (ifb (decide ((0 : Int) < (((Zg 4294967296 x31)).length : Int)))
 (bnd (ZRc x26 x31) fun y58 =>
 some (.inl ((x31, y58.2))))
 (some (.inr x26)))) ZBa ((a, b)))
 (fun (x38 : Nat) =>
 (some x38)))
 (fun (x12 : Nat) =>
 (some x12))
noncomputable def ZLg (s : Bool) (n : Nat) (d : Nat) : Option (Rat) :=
 ifb (((((Zg 4294967296 n)).length : Int)) == ((0 : Int)))
 (bnd (ZTc ([(1 : Int)])) fun y34 =>
 bnd (ZRd false ((0 : Nat)) y34) fun y37 =>
 some y37)
 (bnd (rgcF n d) fun y42 =>
 bnd (ZRc n y42) fun y60 =>
 bnd (ZRc d y42) fun y88 =>
 bnd (ZRd s y60.1 y88.1) fun y118 =>
 some y118)
theorem Zkl {n m : Nat} (h : n ≤ m) (hm : Zlb m) : Zlb n := by
  have := ZFc (B := 4294967296) (by decide) h; unfold Zlb at *; omega
theorem ZLk {n : Nat} (h : Zlb n) : bl n ≤ 2199023255552 := by
  unfold Zlb at h; have h1 := Zqc (B := 4294967296) (by decide) n; have h2 : 4294967296 ^ (Zg 4294967296 n).length = 2 ^ (32 * (Zg 4294967296 n).length) := by rw [Nat.pow_mul]
  rw [h2] at h1; have := Zac h1; omega
theorem sm32_of {n k : Nat} (h : bl n ≤ 32 * k) (hk : k ≤ 68719476736) : Zlb n := by
  unfold Zlb; refine Nat.le_trans (Zhe (B := 4294967296) (k := k) (by decide) ?_) hk; have h1 := ZUd n; have h2 : 4294967296 ^ k = 2 ^ (32 * k) := by rw [Nat.pow_mul]
  rw [h2]; exact Nat.lt_of_lt_of_le h1 (Nat.pow_le_pow_right (by omega) h)
theorem ZSm {n : Nat} (h : bl n ≤ 2199023255552) : Zlb n := sm32_of (k := (bl n + 31) / 32) (by omega) (by omega)
theorem rgcd_eq {n m : Nat} (hn : Zlb n) (hm : Zlb m) : ZZf n m = some (Nat.gcd n m) := by
  unfold ZZf; rw [Z0a]; refine Zeb (fun s : Nat × Nat => Zlb s.1 ∧ Zlb s.2 ∧ Nat.gcd s.1 s.2 = Nat.gcd n m) (fun s => 2 * (bl s.1 + bl s.2) + if s.1 < s.2 then 1 else 0) (fun r : Nat => r = Nat.gcd n m) ⟨hn, hm, rfl⟩
    (ZZa (by have := ZLk hn; have := ZLk hm; simp only; split <;> omega)) ?_ ?_
  · rintro ⟨a, b⟩ ⟨ha, hb, hg⟩; simp only at ha hb hg ⊢; rw [Zjn]; by_cases h0 : b = 0
    · right; subst h0; exact ⟨_, rfl, by rw [← hg, Nat.gcd_zero_right]⟩
    · left; have h1 : ZRc a b = some (a / b, a % b) := by unfold ZRc; rw [if_pos ⟨ha, hb, h0⟩]
      have hlt : a % b < b := Nat.mod_lt _ (by omega); rw [decide_eq_true h0, Z1, h1, Zh]; refine ⟨_, rfl, ⟨hb, Zkl (Nat.le_of_lt hlt) hb, ?_⟩, ?_⟩
      · rw [← hg]; simp only; rw [Nat.gcd_comm b, ← Nat.gcd_rec, Nat.gcd_comm]
      · simp only; rw [if_neg (by omega)]; by_cases hab : a < b
        · rw [if_pos hab, Nat.mod_eq_of_lt hab]; omega
        · have := Z9k (a := a) (b := b) (by omega) h0; rw [if_neg hab]; omega
  · rintro r rfl; rw [Zh]
theorem rgcF_eq {n m z : Nat} (h : rgcF n m = some z) : ZZf n m = some z := by
  unfold rgcF at h; split at h
  · rename_i hh; rw [rgcd_eq hh.1 hh.2, h]
  · cases h
theorem Zqo {s : Bool} {n d : Nat} (hn : n ≠ 0) (hd : d ≠ 0) : decide ((mkRat (sgn s n) d).num < 0) = s ∧ (mkRat (sgn s n) d).num.natAbs = n / Nat.gcd n d ∧ (mkRat (sgn s n) d).den = d / Nat.gcd n d := by
  have e0 : (sgn s n).natAbs = n := by unfold sgn; split <;> omega
  have hg : 0 < Nat.gcd n d := Nat.gcd_pos_of_pos_left _ (Nat.pos_of_ne_zero hn); have hnum : (mkRat (sgn s n) d).num = sgn s n / (Nat.gcd n d : Int) := by rw [Rat.num_mkRat, Nat.gcd_comm, e0]; simp [hd, Nat.gcd_comm]
  have hden : (mkRat (sgn s n) d).den = d / Nat.gcd n d := by rw [Rat.den_mkRat, e0]; simp [hd, Nat.gcd_comm]
  obtain ⟨k, hk⟩ := Nat.gcd_dvd_left n d; have hk0 : k ≠ 0 := by rintro rfl; simp at hk; exact hn hk
  have hq : sgn s n / (Nat.gcd n d : Int) = sgn s k := by
    have : sgn s n = sgn s k * (Nat.gcd n d : Int) := by
      unfold sgn
      conv => lhs; rw [hk]
      split <;> grind
    rw [this, Int.mul_ediv_cancel _ (by omega)]
  have hnk : n / Nat.gcd n d = k := Nat.div_eq_of_eq_mul_right hg hk; rw [hnum, hq, hnk]; refine ⟨?_, by unfold sgn; split <;> omega, hden⟩
  cases s
  · apply decide_eq_false; simp only [sgn]; simp
  · apply decide_eq_true; simp only [sgn]; simp; omega
theorem Zfn {s : Bool} {n d : Nat} (hn : n ≠ 0) (hd : d ≠ 0) : ZRd s (n / Nat.gcd n d) (d / Nat.gcd n d) = some (mkRat (sgn s n) d) := by
  obtain ⟨h1, h2, h3⟩ := Zqo (s := s) hn hd; have := ZGk (mkRat (sgn s n) d); rw [h1, h2, h3] at this; exact this
theorem ZFm : ZRd false 0 1 = some 0 := ZGk 0
theorem Z6l {s : Bool} {n d : Nat} {z : Rat} (h : ZTd s n d = some z) : ZLg s n d = some z := by
  unfold ZTd at h; split at h
  · rename_i hh; obtain ⟨h1, h2, h3⟩ := hh
    cases h
    unfold ZLg; rw [ZZi]; by_cases h0 : n = 0
    · subst h0; rw [decide_eq_true rfl, Z1, ZKk, Zh, ZFm, Zh]; have e : sgn s 0 = 0 := by cases s <;> rfl
      rw [e, Rat.zero_mkRat]
    · have e1 : rgcF n d = some (Nat.gcd n d) := by unfold rgcF; rw [if_pos ⟨h1, h2⟩]
      have hg : Nat.gcd n d ≠ 0 := by have := Nat.gcd_pos_of_pos_left d (Nat.pos_of_ne_zero h0); omega
      have okg : Zlb (Nat.gcd n d) := Zkl (Nat.gcd_le_left _ (Nat.pos_of_ne_zero h0)) h1; have e2 : ZRc n (Nat.gcd n d) = some (n / Nat.gcd n d, n % Nat.gcd n d) := by unfold ZRc; rw [if_pos ⟨h1, okg, hg⟩]
      have e3 : ZRc d (Nat.gcd n d) = some (d / Nat.gcd n d, d % Nat.gcd n d) := by unfold ZRc; rw [if_pos ⟨h2, okg, hg⟩]
      rw [decide_eq_false h0, ZY, e1, Zh, e2, Zh, e3, Zh, Zfn h0 h3, Zh]
  · cases h
noncomputable def Zmg (n : Int) : Option (Rat) :=
 ifb (decide (n < (0 : Int)))
 (bnd (Z6c (IntKind.u64.wrap (-(IntKind.u64.wrap n)))) fun y13 =>
 bnd (ZTc ([(1 : Int)])) fun y29 =>
 bnd (ZTd true y13 y29) fun y32 =>
 some y32)
 (bnd (Z6c (IntKind.u64.wrap n)) fun y75 =>
 bnd (ZTc ([(1 : Int)])) fun y91 =>
 bnd (ZTd false y75 y91) fun y94 =>
 some y94)
noncomputable def Zyg (n : Int) (d : Int) : Option (Rat × Int) :=
 ifb (d == ((0 : Int)))
 (bnd (Ztd ((0 : Int))) fun y14 =>
 some ((y14, (3 : Int))))
 (bnd (Ztd n) fun y42 =>
 bnd (Ztd d) fun y55 =>
 bnd (ZTd ((decide (y42.num < 0)) != (decide (y55.num < 0))) y42.num.natAbs y55.num.natAbs) fun y104 =>
 some ((y104, (0 : Int))))
noncomputable def Zfh (r : (Int × Int)) : Option (Rat) :=
 ifb (r.2 == ((0 : Int)))
 (bnd (Ztd r.1) fun y20 =>
 some y20)
 (bnd (Zqg r.1 r.2) fun y48 =>
 some y48.1)
noncomputable def ZCh (x : Rat) : Option (Int) :=
 bnd (Zhg x) fun y16 =>
 ifb (y16)
 (some ((0 : Int)))
 (ifb (decide (x.num < 0))
 (some ((-1 : Int)))
 (some ((1 : Int))))
theorem ZEe {n : Nat} (h : n ≤ 18446744073709551616) : Zlb n := ZSm (Nat.le_trans (Zac (show n < 2 ^ 65 by omega)) (by decide))
theorem Z8j (n : Int) : mkRat n 1 = (n : Rat) := by
  have := Rat.mkRat_self (n : Rat)
  simpa using this
theorem Zdn {n : Int} (h1 : -9223372036854775808 ≤ n) (h2 : n ≤ 9223372036854775807) : Zmg n = some (n : Rat) := by
  unfold Zmg; rw [ZKk]; unfold Z6c ZTd; by_cases h : n < 0
  · obtain ⟨k, rfl⟩ : ∃ k : Nat, n = -(k : Int) := ⟨n.natAbs, by omega⟩; have e1 : IntKind.u64.wrap (-(IntKind.u64.wrap (-(k : Int)))) = (k : Int) := by rw [wrap_u64, wrap_u64]; omega
    rw [decide_eq_true h, Z1, e1, Zh, Zh, Int.toNat_natCast, if_pos ⟨ZEe (by omega), ZEe (by omega), by omega⟩, Zh, Z8j]; rfl
  · obtain ⟨k, rfl⟩ := Int.eq_ofNat_of_zero_le (show 0 ≤ n by omega); rw [decide_eq_false h, ZY, ZRb (by omega), Zh, Zh, Int.toNat_natCast, if_pos ⟨ZEe (by omega), ZEe (by omega), by omega⟩, Zh, Z8j]; rfl
theorem Zcm {n : Int} {z : Rat} (hn : inR .i64 n) (h : Ztd n = some z) : Zmg n = some z := by
  have := ZPb.1 hn; unfold Ztd at h; rw [Zdn (by omega) (by omega), h]
theorem ZMm (n m : Int) : sgn (decide (n < 0) != decide (m < 0)) n.natAbs = if m < 0 then -n else n := by
  have := ZNi n m; unfold Zmb at this; exact Option.some.inj this
theorem ZNm {n d : Int} {z : Rat × Int} (hn : inR .i64 n) (hd : inR .i64 d) (h : Zqg n d = some z) : Zyg n d = some z := by
  have hn := ZPb.1 hn; have hd := ZPb.1 hd; unfold Zqg at h
  cases h
  unfold Zyg Ztd; by_cases h0 : d = 0
  · subst h0; rfl
  · have e0 : (d == 0) = false := by simp [h0]
    rw [e0, ZY, if_neg h0, Zh, Zh]; unfold ZTd; rw [Rat.num_intCast, Rat.num_intCast, if_pos ⟨ZEe (by omega), ZEe (by omega), by omega⟩, Zh, ZMm, ← ZVh]
theorem rofF_eq {r : Int × Int} {z : Rat} (h : ZJd r = some z) : Zfh r = some z := by
  unfold ZJd at h
  cases h
  unfold Zfh ZMb Ztd Zqg; by_cases h0 : r.2 = 0
  · rw [if_pos h0, h0]; rfl
  · have : (r.2 == 0) = false := by simp [h0]
    rw [this, ZY, Zh, if_neg h0, if_neg h0]
theorem ZOm {x : Rat} {z : Int} (h : Zye x = some z) : ZCh x = some z := by
  unfold Zye at h
  cases h
  unfold ZCh Zhg; rw [Zh]; by_cases h0 : x = 0
  · subst h0; rfl
  · have := ZYi h0; rw [decide_eq_false h0, ZY]; by_cases h1 : x.num < 0
    · rw [decide_eq_true h1, Z1, Int.sign_eq_neg_one_of_neg h1]
    · rw [decide_eq_false h1, ZY, Int.sign_eq_one_of_pos (by omega)]
end Go.Eng
namespace Go.Eng
open Go.RowKit
def Zcc {α : Type} (A : Rep α) : Rep α where
  n := 1
  agg := false
  rel v cs x := ∃ b o c, cs = [.pointer (some ⟨b, o, none⟩)] ∧ At v b o c ∧ A.rel v c x
  len h := by obtain ⟨_, _, _, rfl, _⟩ := h; rfl
  mono hv h := by obtain ⟨b, o, c, e, h1, h2⟩ := h; exact ⟨b, o, c, e, h1.mono hv, A.mono hv h2⟩
  flat h := by obtain ⟨_, _, _, rfl, _⟩ := h; rfl
def Zbd (f : Nat) {α : Type} (A : Rep α) : Rep α where
  n := 1
  agg := false
  rel v cs x := ∃ c, cs = [.func (.func f) #[] c.toArray] ∧ A.rel v c x
  len h := by obtain ⟨_, rfl, _⟩ := h; rfl
  mono hv h := by obtain ⟨c, e, h1⟩ := h; exact ⟨c, e, A.mono hv h1⟩
  flat h := by obtain ⟨_, rfl, _⟩ := h; rfl
def ZIb (f : Nat) : Rep Unit where
  n := 1
  agg := false
  rel _ cs _ := cs = [.func (.func f) #[] #[]]
  len h := by rw [h]; rfl
  mono _ h := h
  flat h := by rw [h]; rfl
theorem Zfg {α : Type} {A : Rep α} {v : Ze} {b o : Nat} {c : List Value} {x : α} (h : At v b o c) (k : A.rel v c x) : (Zcc A).rel v [.pointer (some ⟨b, o, none⟩)] x := ⟨b, o, c, rfl, h, k⟩
theorem Z4i {α : Type} {f : Nat} {A : Rep α} {v : Ze} {c : List Value} {x : α} (k : A.rel v c x) : (Zbd f A).rel v [.func (.func f) #[] c.toArray] x := ⟨c, rfl, k⟩
theorem ZCe {f : Nat} {v : Ze} : (ZIb f).rel v [.func (.func f) #[] #[]] () := rfl
variable {P : Program} {K : Nat} {w0 : Base} {v0 : Ze} {σ : List (Nat × Value)} {ℓ : List Loc} {v : Ze} {a : Act} {w : World}
theorem St.pubVar (h : St K w0 v0 σ ℓ v a w) {i b : Nat} {T : TypeId} {cs : List Value} {ℓ' : List Loc} (hi : ℓ[i]? = some (.box b T cs)) (hℓ : ℓ' = ℓ.eraseIdx i) : ∃ v', v.le v' ∧ St K w0 v0 σ ℓ' v' a w ∧ At v' b 0 cs := by
  obtain ⟨v', h1, h2, h3⟩ := h.pubBox hi hℓ; exact ⟨v', h1, h2, at_box h3 0 cs (by simp)⟩
end Go.Eng
namespace Go.Eng
open Go.RowKit
variable {P : Program} {K : Nat} {w0 : Base} {v0 : Ze} {σ : List (Nat × Value)} {ℓ : List Loc} {v : Ze} {a : Act} {w : World}
variable {d : Option Nat} {ty : TypeId} {pos : String} {aft : Array Edge} {g : Option (Nat × Bool)}
theorem ZYj (hS : St K w0 v0 σ ℓ v a w) {x : Operand} {f : FuncId} {xs : Array Operand} {ats : Array TypeId} (vals caps : List Value) (hf : Z3 P f) (e : ev σ x = some (.func (.func f) #[] caps.toArray))
    (h : xs.toList.map (ev σ) = vals.map some) : (execOp a.eval ⟨d, .call ⟨.value x, xs, ats⟩, ty, pos, aft, g⟩).run P w = .ok (.enter f (vals ++ caps).toArray) w := by
  have := Zal (d := d) (ty := ty) (pos := pos) (aft := aft) (g := g) (ats := ats) hS hf e h
  simpa using this
end Go.Eng
namespace Go.Eng
open Go.RowKit
variable {P : Program} {K : Nat} {w0 : Base} {v0 : Ze} {σ : List (Nat × Value)} {ℓ : List Loc} {v : Ze} {a : Act} {w : World}
variable {d : Option Nat} {ty : TypeId} {pos : String} {aft : Array Edge} {g : Option (Nat × Bool)}
theorem Zxb (hS : St K w0 v0 σ ℓ v a w) {t : TypeId} {n sz b o : Nat} {x i : Operand} {k : IntKind} {j : Int} (ht : ZLf P t n sz) (e : ev σ x = some (.pointer (some ⟨b, o, none⟩))) (ei : ev σ i = some (.int k j)) (h0 : 0 ≤ j) (h1 : j < n) (q : Nat) (hq : o + j.toNat * sz = q) :
    (execOp a.eval ⟨d, .indexAddr t x i, ty, pos, aft, g⟩).run P w = .ok (.value (.pointer (some ⟨b, q, none⟩))) w := by
  rw [Zgl hS ht e ei h0 h1, hq]
end Go.Eng
namespace Go.Eng
open Go.RowKit
def Ztj (P : Program) (f : FuncId) (T e : TypeId) : Prop := ∀ (B b : Nat) (bs : List Value) (s : ByteArray) (w : World), Lib.IsBuilder T e B b bs w → bs.length + s.size ≤ 140737488355328 → B ≤ w.heap.size →
  Calls P f #[.pointer (some ⟨b, 0, none⟩), .string s] w fun x w' => x = .returned (.tuple #[.int .i64 s.size, .nilIface]) ∧ (Lib.BuilderAt T e B b (.pointer (some ⟨b, 0, none⟩)) (bs ++ Lib.strCells s) w' ∧ Below B w w')
def Tells (P : Program) (f : FuncId) (T e : TypeId) : Prop := ∀ (B b : Nat) (l : List UInt8) (w : World), Lib.IsBuilder T e B b (Lib.byteCells l) w → B ≤ w.heap.size →
  Calls P f #[.pointer (some ⟨b, 0, none⟩)] w fun x w' => x = .returned (.string ⟨l.toArray⟩) ∧ Below B w w'
structure Bld (T e b : Nat) (w0 : Base) (v : Ze) (m : List UInt8) (w : World) : Prop where
  is : Lib.IsBuilder T e b b (Lib.byteCells m) w
  old : ∀ k o, v k = some o → k < b
  base : w0.wd.heap.size ≤ b
  lt : b ≤ w.heap.size
variable {P : Program} {K : Nat} {w0 : Base} {v0 : Ze} {σ : List (Nat × Value)} {ℓ : List Loc} {v : Ze} {a : Act} {w : World}
variable {ops : Array Oper} {Q : Exit → Act → World → Prop} {rest : List Oper}
theorem St.below {w' : World} {b : Nat} (h : St K w0 v0 σ [] v a w) (x : Below b w w') (hv : ∀ k o, v k = some o → k < b) (hb : w0.wd.heap.size ≤ b) : St K w0 v0 σ [] v a w' :=
  ⟨h.size, h.dfr, h.fr, ⟨x.os.trans h.ext.os, x.tape.trans h.ext.tape, x.output.trans h.ext.output, Nat.le_trans h.ext.size x.size, fun k hk hn => (x.block k (by omega)).trans (h.ext.block k hk hn)⟩,
    ⟨h.vst.le, fun k o e => (x.block k (hv k o e)).trans (h.vst.vin k o e), h.vst.old⟩, fun e he => by simp at he, List.nodup_nil⟩
theorem op_newB {o : Oper} {d T : Nat} (e : Nat) (hS : St K w0 v0 σ ℓ v a w) (hw : Region.wanted o (yielded ops a.tmps) = true) (hd : o.dst = some d) (hK : d < K)
    (hrun : (execOp a.eval o).run P w = .ok (.value (.pointer (some ⟨w.heap.size, 0, none⟩))) (w.alloc (.cells #[.pointer none, .slice none 0 0] T)))
    (h : ∀ b a w, St K w0 v0 ((d, .pointer (some ⟨b, 0, none⟩)) :: σ) [] v a w → Bld T e b w0 v [] w → wpList P ops Q rest a w) : wpList P ops Q (o :: rest) a w :=
  ZDd hw (Zie hrun (by
    rw [hd]
    have h1 : St K w0 v0 σ [] v a w := hS.drop (List.nil_sublist _)
    have h2 : Ext w (w.alloc (.cells #[.pointer none, .slice none 0 0] T)) := Ext.alloc w _
    exact h w.heap.size _ _ ((h1.step h2 (VStep.ext h1.vin h2)).put _ hK) ⟨Lib.fresh_isBuilder T e w, fun k o hk => h1.vin.lt hk, h1.ext.size, h2.size⟩))
theorem ZNl (l l' : List UInt8) : Lib.byteCells l ++ Lib.strCells (Zra l') = Lib.byteCells (l ++ l') := by simp [Lib.byteCells, Lib.strCells, Zra]
theorem Zdm {o : Oper} {d f T e b : Nat} {m s : List UInt8} (hW : Ztj P f T e) (hB : Bld T e b w0 v m w) (hl : (m ++ s).length ≤ 140737488355328) (hS : St K w0 v0 σ [] v a w) (hw : Region.wanted o (yielded ops a.tmps) = true) (hd : o.dst = some d) (hK : d < K)
    (hrun : (execOp a.eval o).run P w = .ok (.enter f #[.pointer (some ⟨b, 0, none⟩), .string (Zra s)]) w)
    (h : ∀ a w, St K w0 v0 ((d, .tuple #[.int .i64 s.length, .nilIface]) :: σ) [] v a w → Bld T e b w0 v (m ++ s) w → wpList P ops Q rest a w) : wpList P ops Q (o :: rest) a w := by
  have hc := hW b b (Lib.byteCells m) (Zra s) w hB.is (by rw [Lib.byteCells_length, ZSd, ← List.length_append]; exact hl) hB.lt; refine ZDd hw (ZUf hrun (Calls.mono hc fun x w' ⟨e1, e2, e3⟩ => ⟨_, e1, ?_⟩)); rw [hd]; rw [ZSd] at *; rw [ZNl] at e2; exact h _ _ ((hS.below e3 hB.old hB.base).put _ hK) ⟨.inr e2, hB.old, hB.base, Nat.le_trans hB.lt e3.size⟩
theorem op_tell {o : Oper} {d f T e b : Nat} {m : List UInt8} (hT : Tells P f T e) (hB : Bld T e b w0 v m w) (hS : St K w0 v0 σ [] v a w) (hw : Region.wanted o (yielded ops a.tmps) = true) (hd : o.dst = some d) (hK : d < K)
    (hrun : (execOp a.eval o).run P w = .ok (.enter f #[.pointer (some ⟨b, 0, none⟩)]) w)
    (h : ∀ a w, St K w0 v0 ((d, .string (Zra m)) :: σ) [] v a w → wpList P ops Q rest a w) : wpList P ops Q (o :: rest) a w := by
  have hc := hT b b m w hB.is hB.lt; refine ZDd hw (ZUf hrun (Calls.mono hc fun x w' ⟨e1, e3⟩ => ⟨_, e1, ?_⟩)); rw [hd]; exact h _ _ ((hS.below e3 hB.old hB.base).put _ hK)
def ZJf (l : List UInt8) : Option Unit := if l.length ≤ 140737488355328 then some () else none
theorem ZMo {l : List UInt8} {u : Unit} (h : ZJf l = some u) : l.length ≤ 140737488355328 := by
  unfold ZJf at h; split at h
  · assumption
  · cases h
theorem ZHm {q : Option Nat} {b o : Nat} (h : mkA q = some ⟨b, o, none⟩) : q = some b ∧ o = 0 := by
  cases q with
  | none => cases h
  | some c => cases h; exact ⟨rfl, rfl⟩
noncomputable def Z5f (a : Nat) : Option ((List UInt8)) :=
 bnd (bnd (Zna (fun s : Nat × (List (List UInt8)) => match s with
 | (x113, x118) =>
 (ifb (decide ((0 : Int) < (((Zg 18446744073709551616 x113)).length : Int)))
 (bnd (Zsd x113 ((10000000000000000000 : Int))) fun y151 =>
 bnd (Z6e y151.2) fun y175 =>
 bnd (ifb (decide ((0 : Int) < (((Zg 18446744073709551616 y151.1)).length : Int)))
 (bnd (chk .i64 (((19 : Int)) - ((y175.length : Int)))) fun y220 =>
 bnd (ZXe (([48] : List UInt8)) y220) fun y222 =>
 bnd (ZKc (y222 ++ y175)) fun y229 =>
 some ((y222 ++ y175)))
 (some y175))
 (fun (x192 : (List UInt8)) =>
 (bnd (Zub 16 (x118 ++ [x192])) fun y205 =>
 some (.inl ((y151.1, (x118 ++ [x192])))))))
 (some (.inr x118)))) ZBa ((a, ([] : (List (List UInt8))))))
 (fun (x128 : (List (List UInt8))) =>
 (some x128)))
 (fun (x13 : (List (List UInt8))) =>
 (ifb (((x13.length : Int)) == ((0 : Int)))
 (some (([48] : List UInt8)))
 (bnd (chk .i64 (((x13.length : Int)) - ((1 : Int)))) fun y51 =>
 bnd (bnd (Zna (fun s : (List UInt8) × Int => match s with
 | (x67, x69) =>
 (ifb (decide ((0 : Int) ≤ x69))
 (bnd (idx x13 x69) fun y90 =>
 bnd (ZJf (x67 ++ y90)) fun y99 =>
 bnd (chk .i64 (x69 - ((1 : Int)))) fun y110 =>
 some (.inl (((x67 ++ y90), y110))))
 (some (.inr x67)))) ZBa ((([] : List UInt8), y51)))
 (fun (x73 : (List UInt8)) =>
 (some x73)))
 (fun (x54 : (List UInt8)) =>
 (bnd (ZKc x54) fun y65 =>
 some x54)))))
noncomputable def ZAg (x : Rat) : Option ((List UInt8)) :=
 bnd (Z2e ((x.num).natAbs)) fun y17 =>
 bnd (ifb (decide (x.num < 0))
 (bnd (ZKc ((([45] : List UInt8)) ++ y17)) fun y80 =>
 some (((([45] : List UInt8)) ++ y17)))
 (some y17))
 (fun (x37 : (List UInt8)) =>
 (bnd (ifb (decide ((0 : Int) < (((Zg 18446744073709551616 ((Z5a x.den)))).length : Int)))
 (bnd (Z2e ((Z5a x.den))) fun y63 =>
 bnd (ZKc ((([47] : List UInt8)) ++ y63)) fun y70 =>
 bnd (ZKc (x37 ++ (((([47] : List UInt8)) ++ y63)))) fun y72 =>
 some ((x37 ++ (((([47] : List UInt8)) ++ y63)))))
 (some x37))
 (fun (x51 : (List UInt8)) =>
 (some x51))))
end Go.Eng
