/- Lemmas towards the statement: the engine of the walks, the functions' models, laws and walks, part 3. Conditions: as each states. -/
import Derived.Lib.AppendStr
import Derived.Lib.Builder
import Derived.Lib.UnsafeStr
import Derived.Test.YtlemohkjkgiloaaGreatProg
import Derived.Test.YtlemohkjkgiloaaGreatCvB
set_option linter.all false
set_option maxRecDepth 100000
namespace Go.Eng
theorem ZEk {B n : Nat} (hB : 2 ≤ B) (w : Nat) : (Zk B n).drop w = Zk B (n / B ^ w) := by
  induction w generalizing n with
  | zero => rw [List.drop_zero, Nat.pow_zero, Nat.div_one]
  | succ w ih =>
    by_cases h : n = 0
    · subst h; rw [Z8a, Nat.zero_div, Z8a]; rfl
    · rw [Z2c hB h, List.drop_succ_cons, ih, Nat.div_div_eq_div_mul, Nat.pow_succ, Nat.mul_comm B]
theorem ZFq {B n : Nat} (hB : 2 ≤ B) (w : Nat) (h : w ≤ (Zk B n).length) : val B ((Zk B n).take w) = n % B ^ w := by
  have h1 := ZCd B (Zk B n) w h; rw [Zab hB, ZBm hB] at h1; have h2 := Nat.mod_add_div n (B ^ w); omega
theorem Zlk {B n i : Nat} (hB : 2 ≤ B) (h : i < (Zk B n).length) : idx (Zk B n) (i : Int) = some ((n / B ^ i % B : Nat) : Int) := by
  rw [Zja h]; congr 1; have h1 := List.drop_eq_getElem_cons h; rw [ZEk hB] at h1; have h2 : n / B ^ i ≠ 0 := by
    intro h2; rw [h2, Z8a] at h1
    cases h1
  rw [Z2c hB h2] at h1; exact (List.cons.inj h1).1.symm
theorem ZOp {B n L : Nat} (hB : 2 ≤ B) (h1 : B ^ L ≤ n) (h2 : n < B ^ (L + 1)) : (Zk B n).length = L + 1 := by
  have h3 := Zgf hB h2; have h4 := ZOc hB n; have h5 : ¬ (Zk B n).length ≤ L := by
    intro h5; have := Nat.pow_le_pow_right (n := B) (by omega) h5; omega
  omega
theorem Ztm {n m : Nat} : decide (Zjb n m < 0) = decide (n < m) := by
  unfold Zjb; by_cases h : n < m
  · rw [if_pos h, decide_eq_true h]; rfl
  · rw [if_neg h, decide_eq_false h]; split <;> rfl
theorem Zel {n m : Nat} : decide (0 < Zjb n m) = decide (m < n) := by
  unfold Zjb; by_cases h : n < m
  · rw [if_pos h, decide_eq_false (show ¬ m < n by omega)]; rfl
  · rw [if_neg h]; by_cases h2 : m < n
    · rw [if_pos h2, decide_eq_true h2]; rfl
    · rw [if_neg h2, decide_eq_false h2]; rfl
theorem ZGh {n k : Nat} (h : n < 4294967296 ^ k) : (Zk 4294967296 n).length ≤ k := Zgf (by decide) h
theorem quo_end {a b q R rest : Nat} (hb : 0 < b) (hR : 0 < R) (h : rest < b * R) (e : a * R = rest + b * R * q) : q = a / b ∧ rest / R = a % b := by
  have h1 : a * R / (b * R) = q := by rw [e, Nat.add_mul_div_left _ _ (Nat.mul_pos hb hR), Nat.div_eq_of_lt h, Nat.zero_add]
  rw [Nat.mul_div_mul_right _ _ hR] at h1; have h2 : a * R % (b * R) = rest := by rw [e, Nat.add_mul_mod_self_left, Nat.mod_eq_of_lt h]
  rw [Nat.mul_mod_mul_right] at h2; exact ⟨h1.symm, by rw [← h2, Nat.mul_div_cancel _ hR]⟩
theorem Zdq {a b : Nat} (ha : Zgb a) (hb : Zgb b) (hb0 : b ≠ 0) : ZRg a b = some (a / b, a % b) := by
  unfold ZRg Zyd; rw [Zc, Ztm]; by_cases hab : a < b
  · rw [decide_eq_true hab, ZJ, Nat.div_eq_of_lt hab, Nat.mod_eq_of_lt hab]
  rw [decide_eq_false hab, ZF]; unfold Zgb at ha hb; have hLpos := List.length_pos_iff.2 ((Zgd (n := b) (B := 4294967296) (by decide)).2 hb0); by_cases hL1 : (Zk 4294967296 b).length = 1
  · rw [hL1]; have hb1 : b < 4294967296 := by
      have := ZOc (B := 4294967296) (by decide) b; rw [hL1] at this; simpa using this
    rw [show (((1 : Nat) : Int) == 1) = true from rfl, ZJ, Z2k (by decide) hb0 hb1, Zc]; unfold Z4e ZNc; rw [if_pos ⟨by unfold ZRa; omega, by omega⟩, Zc]; simp only [Int.toNat_natCast]; have hm := Nat.mod_lt a (Nat.pos_of_ne_zero hb0); rw [ZRb (by omega), Int.toNat_natCast]; rfl
  have e1 : (((Zk 4294967296 b).length : Int) == 1) = false := beq_false_of_ne (by omega); rw [e1, ZF]; obtain ⟨l, hl⟩ : ∃ l, (Zk 4294967296 b).length = l + 1 := ⟨(Zk 4294967296 b).length - 1, by omega⟩; have hbge : 4294967296 ^ l ≤ b := by have := Z0h (B := 4294967296) (by decide) hb0; rw [hl] at this; simpa using this
  have hblt : b < 4294967296 ^ (l + 1) := by have := ZOc (B := 4294967296) (by decide) b; rwa [hl] at this
  have hp : ∀ k, (4294967296 : Nat) ^ k = 2 ^ (32 * k) := fun k => by rw [Nat.pow_mul]
  obtain ⟨c, hc⟩ := ZAf hb0; obtain ⟨hc1, hc2⟩ := (Zpf hb0).1 hc; have hcl : 32 * l ≤ c := by
    have h1 : 2 ^ (32 * l) < 2 ^ (c + 1) := by rw [← hp]; omega
    have := (Nat.pow_lt_pow_iff_right (by omega : 1 < 2)).1 h1; omega
  have hcu : c + 1 ≤ 32 * (l + 1) := by
    have h1 : 2 ^ c < 2 ^ (32 * (l + 1)) := by rw [← hp]; omega
    have := (Nat.pow_lt_pow_iff_right (by omega : 1 < 2)).1 h1; omega
  obtain ⟨up, hup⟩ : ∃ up, up + (c + 1) = 32 * (l + 1) := ⟨32 * (l + 1) - (c + 1), by omega⟩; have hup31 : up ≤ 31 := by omega
  have hR : 0 < 2 ^ up := Nat.pow_pos (by omega); have hR31 : 2 ^ up ≤ 2147483648 := Nat.le_trans (Nat.pow_le_pow_right (by omega) hup31) (by decide); have c1 : chk .i64 (32 * ((l + 1 : Nat) : Int)) = some ((32 * (l + 1) : Nat) : Int) := by rw [show (32 * ((l + 1 : Nat) : Int)) = ((32 * (l + 1) : Nat) : Int) by omega, Zmb (by omega)]
  have c2 : Zeg b = some (((c + 1 : Nat)) : Int) := by unfold Zeg; rw [if_pos (by unfold ZRa; omega), hc]
  have c3 : chk .i64 (((32 * (l + 1) : Nat) : Int) - ((c + 1 : Nat) : Int)) = some (up : Int) := by rw [show ((32 * (l + 1) : Nat) : Int) - ((c + 1 : Nat) : Int) = (up : Int) by omega, Zmb (by omega)]
  have c4 : ZAc b (up : Int) = some (b * 2 ^ up) := by unfold ZAc; rw [if_pos ⟨by unfold ZRa; omega, by omega, by omega⟩, Int.toNat_natCast]
  have c5 : ZAc a (up : Int) = some (a * 2 ^ up) := by unfold ZAc; rw [if_pos ⟨by unfold ZRa; omega, by omega, by omega⟩, Int.toNat_natCast]
  rw [hl, c1, Zc, c2, Zc, c3, Zc, c4, Zc, c5, Zc]; have hv1 : 2 ^ (32 * l + 31) ≤ b * 2 ^ up := by
    have h1 := Nat.mul_le_mul_right (2 ^ up) hc1; rw [← Nat.pow_add] at h1; have h2 : c + up = 32 * l + 31 := by omega
    rw [h2] at h1; exact h1
  have hv2 : b * 2 ^ up < 4294967296 ^ (l + 1) := by
    have h1 := Nat.mul_lt_mul_of_pos_right hc2 hR; rw [← Nat.pow_add] at h1; have h2 : c + 1 + up = 32 * (l + 1) := by omega
    rw [h2, ← hp] at h1; exact h1
  have hvge : 4294967296 ^ l * 2147483648 ≤ b * 2 ^ up := by
    rw [hp, show (2147483648 : Nat) = 2 ^ 31 from rfl, ← Nat.pow_add]; exact hv1
  have hdm : ∀ n q : Nat, q ≠ 0 → n = q * (n / q) + n % q ∧ n % q < q := fun n q h => ⟨(Nat.div_add_mod n q).symm, Nat.mod_lt _ (by omega)⟩; obtain ⟨v, hv⟩ : ∃ v, v = b * 2 ^ up := ⟨_, rfl⟩; rw [← hv] at hv1 hv2 hvge ⊢; have hBl : 0 < 4294967296 ^ l := Nat.pow_pos (by omega); have hlv : (Zk 4294967296 v).length = l + 1 := ZOp (by decide) (by omega) hv2; have hv0 : 0 < v := by omega
  obtain ⟨M, hM⟩ : ∃ M, M = (Zk 4294967296 a).length := ⟨_, rfl⟩; have hML : l + 1 ≤ M := by rw [hM, ← hl]; exact Zkd (by decide) (by omega)
  have haM : a < 4294967296 ^ M := by rw [hM]; exact ZOc (by decide) a
  rw [hlv, ← hM]; rw [← hM] at ha; have c6 : chk .i64 ((M : Int) - ((l + 1 : Nat) : Int)) = some ((M - (l + 1) : Nat) : Int) := by rw [show (M : Int) - ((l + 1 : Nat) : Int) = ((M - (l + 1) : Nat) : Int) by omega, Zmb (by omega)]
  obtain ⟨K, hK⟩ : ∃ K, K + (l + 1) = M + 2 := ⟨M - (l + 1) + 2, by omega⟩; have c7 : chk .i64 (((M - (l + 1) : Nat) : Int) + 2) = some (K : Int) := by rw [show ((M - (l + 1) : Nat) : Int) + 2 = (K : Int) by omega, Zmb (by omega)]
  obtain ⟨u, hu⟩ := Zid (b := 4) (l := (K : Int)) (c := (K : Int)) (by omega) (by omega) (by omega) (by omega); rw [c6, Zc, c7, Zc, hu, Zc, Int.toNat_natCast, List.length_replicate, Zda (by omega) (by omega), Zc, Z1a]; obtain ⟨ra, hra⟩ : ∃ ra, ra = a * 2 ^ up := ⟨_, rfl⟩; rw [← hra]; have hraM : ra < 4294967296 ^ (M + 1) := by
    rw [hra, Nat.pow_succ]; exact Nat.mul_lt_mul'' haM (by omega)
  have hra0 : ra < v * 4294967296 ^ K := by
    have h1 : 4294967296 ^ l * 2147483648 * 4294967296 ^ K ≤ v * 4294967296 ^ K := Nat.mul_le_mul_right _ hvge; have h2 : 4294967296 ^ l * 2147483648 * 4294967296 ^ K = 4294967296 ^ (M + 1) * 2147483648 := by
      rw [Nat.mul_right_comm, ← Nat.pow_add, show l + K = M + 1 by omega]
    omega
  refine Zkb (fun s : Nat × (List Int) × Int => ∃ k : Nat, s.2.2 = (k : Int) - 1 ∧ k ≤ K ∧ s.2.1.length = K ∧ Dig 4294967296 s.2.1 ∧ (∀ i (h : i < s.2.1.length), i < k → s.2.1[i] = 0) ∧
      s.1 < v * 4294967296 ^ k ∧ s.1 ≤ ra ∧ ra = s.1 + v * (4294967296 ^ k * val 4294967296 (s.2.1.drop k))) (fun s => (s.2.2 + 1).toNat)
    (fun r : Nat × List Int => r.1 < v ∧ r.1 ≤ ra ∧ ra = r.1 + v * val 4294967296 r.2) ⟨K, rfl, by omega, by simp, Dig.replicate _ (by omega), by intro i h _; simp, hra0, Nat.le_refl _, by simp [List.drop_eq_nil_of_le, val]⟩ (ZTa (by simp; omega)) ?_ ?_
  · rintro ⟨rest, out, j⟩ ⟨k, hj, hk, ho, hd, hz, hlt, hle, he⟩; simp only at hj ho hd hz hlt hle he ⊢; subst hj; by_cases hk0 : k = 0
    · right; subst hk0; rw [show decide ((0 : Int) ≤ ((0 : Nat) : Int) - 1) = false from rfl, ZF]; refine ⟨_, rfl, by simpa using hlt, hle, by simpa using he⟩
    left; obtain ⟨j, rfl⟩ : ∃ j, k = j + 1 := ⟨k - 1, by omega⟩; have ej : ((j + 1 : Nat) : Int) - 1 = (j : Int) := by omega
    rw [ej, decide_eq_true (show (0 : Int) ≤ (j : Int) by omega), ZJ]; have hjo : j < out.length := by omega
    have cA : ifb (decide ((j : Int) < ((Zk 4294967296 rest).length : Int))) (bnd (Zrb (Zk 4294967296 rest) (j : Int) ((Zk 4294967296 rest).length : Int)) fun y654 => some y654) (some ([] : List Int)) = some (Zk 4294967296 (rest / 4294967296 ^ j)) := by
      rw [← ZEk (by decide)]; by_cases h : j < (Zk 4294967296 rest).length
      · rw [decide_eq_true (by omega), ZJ]; have : Zrb (Zk 4294967296 rest) (j : Int) ((Zk 4294967296 rest).length : Int) = some ((Zk 4294967296 rest).drop j) := by
          unfold Zrb; rw [if_pos ⟨by omega, by omega, by omega⟩]; simp
        rw [this, Zc]
      · rw [decide_eq_false (by omega), ZF, List.drop_eq_nil_of_le (by omega)]
    rw [cA, Zc, Zwm, Zc, Zc, Ztm]; obtain ⟨p, hpp⟩ : ∃ p, p = rest / 4294967296 ^ j := ⟨_, rfl⟩; rw [← hpp]; have hBj : 0 < 4294967296 ^ j := Nat.pow_pos (by omega); have hrp := Nat.div_add_mod rest (4294967296 ^ j); have hrm := Nat.mod_lt rest hBj; rw [← hpp] at hrp; have hpv : p < v * 4294967296 := by
      rw [hpp, Nat.div_lt_iff_lt_mul hBj]; rw [Nat.pow_succ] at hlt; rw [Nat.mul_assoc, Nat.mul_comm 4294967296]; exact hlt
    have cz : out[j] = 0 := hz j hjo (by omega); have hdrop : val 4294967296 (out.drop j) = 4294967296 * val 4294967296 (out.drop (j + 1)) := by rw [ZEc hjo, cz]; simp
    have cend : chk .i64 ((j : Int) - 1) = some ((j : Int) - 1) := Zda (by omega) (by omega); by_cases hpl : p < v
    · rw [decide_eq_true hpl, ZJ, Zc]; simp only; rw [cend, Zc]; refine ⟨_, rfl, ⟨j, rfl, by omega, ho, hd, fun i h hi => hz i h (by omega), ?_, hle, ?_⟩, by simp⟩
      · have := Nat.mul_le_mul_left (4294967296 ^ j) (show p + 1 ≤ v by omega); rw [Nat.mul_add, Nat.mul_comm (4294967296 ^ j) v] at this; simp only; omega
      · simp only; rw [hdrop, he, Nat.pow_succ]; grind
    rw [decide_eq_false hpl, ZF]; have hp1 : p < 4294967296 ^ (l + 1 + 1) := by
      rw [Nat.pow_succ]; exact Nat.lt_trans hpv (Nat.mul_lt_mul_of_pos_right hv2 (by omega))
    have hplen1 := ZGh hp1; have hplen0 : l + 1 ≤ (Zk 4294967296 p).length := by rw [← hlv]; exact Zkd (by decide) (by omega)
    have cl : chk .i64 (((l + 1 : Nat) : Int) - 1) = some (l : Int) := by rw [show ((l + 1 : Nat) : Int) - 1 = (l : Int) by omega, Zmb (by omega)]
    rw [cl, Zc, Zlk (by decide) (by omega : l < (Zk 4294967296 p).length), Zc]; obtain ⟨h, hh⟩ : ∃ h, h = p / 4294967296 ^ l := ⟨_, rfl⟩; have hh64 : h < 18446744073709551616 := by
      rw [hh]; apply Nat.div_lt_of_lt_mul; rw [Nat.pow_succ, Nat.pow_succ] at hp1; rw [show (18446744073709551616 : Nat) = 4294967296 * 4294967296 from rfl, ← Nat.mul_assoc]; exact hp1
    rw [← hh]; have cH : ifb (decide (((l + 1 : Nat) : Int) < ((Zk 4294967296 p).length : Int))) (bnd (idx (Zk 4294967296 p) ((l + 1 : Nat) : Int)) fun y641 => bnd (ZLb .u64 (IntKind.u64.wrap y641) 32) fun y647 => some (orI .u64 (IntKind.u64.wrap ((h % 4294967296 : Nat) : Int)) y647)) (some (IntKind.u64.wrap ((h % 4294967296 : Nat) : Int))) = some (h : Int) := by
      rw [ZRb (by omega)]; have hhd : p / 4294967296 ^ (l + 1) = h / 4294967296 := by rw [hh, Nat.div_div_eq_div_mul, Nat.pow_succ]
      by_cases hq : l + 1 < (Zk 4294967296 p).length
      · rw [decide_eq_true (by omega), ZJ, Zlk (by decide) hq, Zc, hhd, ZRb (by omega)]; have hx : h / 4294967296 % 4294967296 = h / 4294967296 := Nat.mod_eq_of_lt (by omega); rw [hx]; have e1 : ZLb .u64 ((h / 4294967296 : Nat) : Int) 32 = some ((h / 4294967296 * 2 ^ 32 : Nat) : Int) := by
          have := ZCe (x := h / 4294967296) (k := 32) (by omega); rw [Nat.mod_eq_of_lt (by omega)] at this; exact this
        have e2 : orI .u64 ((h % 4294967296 : Nat) : Int) ((h / 4294967296 * 2 ^ 32 : Nat) : Int) = (h : Int) := by
          have hc : orI .u64 ((h % 4294967296 : Nat) : Int) ((h / 4294967296 * 2 ^ 32 : Nat) : Int) = orI .u64 ((h / 4294967296 * 2 ^ 32 : Nat) : Int) ((h % 4294967296 : Nat) : Int) := by unfold orI; rw [BitVec.or_comm]
          rw [hc, Zqf (k := 32) (by omega) (by omega)]; exact congrArg (fun q : Nat => (q : Int)) (by omega)
        rw [e1, Zc, e2]
      · rw [decide_eq_false (by omega), ZF]; have h0 : p / 4294967296 ^ (l + 1) = 0 := Nat.div_eq_of_lt (by
          have := ZOc (B := 4294967296) (by decide) p; have e : (Zk 4294967296 p).length = l + 1 := by omega
          rwa [e] at this)
        rw [hhd] at h0; exact congrArg (fun q : Nat => some (q : Int)) (by omega)
    rw [cH, Zc, Zc, Zlk (by decide) (by omega : l < (Zk 4294967296 v).length), Zc]; obtain ⟨t, ht⟩ : ∃ t, t = v / 4294967296 ^ l := ⟨_, rfl⟩; have ht1 : 2147483648 ≤ t := by rw [ht, Nat.le_div_iff_mul_le hBl, Nat.mul_comm]; exact hvge
    have ht2 : t < 4294967296 := by rw [ht]; apply Nat.div_lt_of_lt_mul; rw [Nat.pow_succ] at hv2; exact hv2
    rw [← ht, Nat.mod_eq_of_lt ht2, ZRb (by omega), ZRf (by omega) hh64, Zc]; have hq0 : p / v ≤ h / t := by
      rw [hh, ht, Nat.div_div_eq_div_mul]; apply Nat.div_le_div_left
      · exact Nat.mul_div_le v (4294967296 ^ l)
      · exact Nat.mul_pos hBl (by rw [← ht]; omega)
    have hqB : p / v < 4294967296 := (Nat.div_lt_iff_lt_mul hv0).2 (by rw [Nat.mul_comm]; exact hpv); obtain ⟨q, hq⟩ : ∃ q, q = p / v := ⟨_, rfl⟩; rw [← hq] at hq0 hqB; have hpq := Nat.div_add_mod p v; have hpr := Nat.mod_lt p hv0; rw [← hq] at hpq; obtain ⟨g, hg1, hg2, cG⟩ : ∃ g : Nat, q ≤ g ∧ g < 4294967296 ∧ ifb (decide ((4294967295 : Int) < ((h / t : Nat) : Int))) (some (4294967295 : Int)) (some ((h / t : Nat) : Int)) = some (g : Int) := by
      by_cases hx : 4294967295 < h / t
      · exact ⟨4294967295, by omega, by omega, by rw [decide_eq_true (by omega), ZJ]; rfl⟩
      · exact ⟨h / t, hq0, by omega, by rw [decide_eq_false (by omega), ZF]⟩
    have okp : ∀ n, n < 4294967296 ^ (l + 1 + 1) → ZRa n := fun n hn => by unfold ZRa; have := ZGh hn; omega
    have hvg : ∀ x, x < 4294967296 → v * x < 4294967296 ^ (l + 1 + 1) := fun x hx => by rw [Nat.pow_succ]; exact Nat.mul_lt_mul'' hv2 hx
    have okg : ZRa g := by
      unfold ZRa; have := ZGh (n := g) (k := 1) (by simpa using hg2); omega
    have okv : ZRa v := by unfold ZRa; omega
    have cN : ZNc (g : Int) = some g := by unfold ZNc; rw [Int.toNat_natCast]
    have cP : Zhb v g = some (v * g) := by unfold Zhb; rw [if_pos ⟨okv, okg⟩]
    rw [cG, Zc, cN, Zc, cP, Zc, Z1a, Z1a]; refine Zbk (s := ((g : Int), v * g)) (fun s : Int × Nat => ∃ x : Nat, s.1 = (x : Int) ∧ s.2 = v * x ∧ q ≤ x ∧ x < 4294967296) (fun s => s.1.toNat) (fun r : Int × Nat => r = ((q : Int), v * q)) ⟨g, rfl, rfl, hg1, hg2⟩ (ZTa (by simp; omega)) ?_ ?_
    · rintro ⟨x, y⟩ ⟨x, rfl, rfl, hx1, hx2⟩; simp only; rw [Zc, Zc, Zel]; by_cases hxp : p < v * x
      · left; have hx0 : q < x := by
          rcases Nat.lt_or_ge q x with h' | h'
          · exact h'
          · have := Nat.mul_le_mul_left v h'; omega
        have cD : ZGc (v * x) v = some (v * (x - 1)) := by
          unfold ZGc; have hle : v * 1 ≤ v * x := Nat.mul_le_mul_left v (by omega); rw [if_pos ⟨okp _ (hvg x hx2), by omega⟩, Nat.mul_sub, Nat.mul_one]
        have cW : IntKind.u64.wrap ((x : Int) - 1) = ((x - 1 : Nat) : Int) := by rw [show (x : Int) - 1 = ((x - 1 : Nat) : Int) by omega, ZRb (by omega)]
        rw [decide_eq_true hxp, ZJ, cD, Zc, cW]; exact ⟨_, rfl, ⟨x - 1, rfl, rfl, by omega, by omega⟩, by simp; omega⟩
      · right; have hxq : x = q := by
          have h1 : x ≤ p / v := (Nat.le_div_iff_mul_le hv0).2 (by rw [Nat.mul_comm]; omega); omega
        subst hxq; rw [decide_eq_false hxp, ZF]; exact ⟨_, rfl, rfl⟩
    · rintro _ rfl; rw [Zc]; simp only; have hjr : j < (Zk 4294967296 rest).length := by
        rcases Nat.lt_or_ge j (Zk 4294967296 rest).length with h' | h'
        · exact h'
        · have h1 : (Zk 4294967296 rest).drop j = [] := List.drop_eq_nil_of_le h'; rw [ZEk (by decide), ← hpp] at h1; have := (Z8f (B := 4294967296) (by decide)).1 h1; omega
      have hrl : (Zk 4294967296 rest).length ≤ M + 1 := by
        have := Zkd (B := 4294967296) (by decide) hle; have := ZGh hraM; omega
      have cC : Zrb (Zk 4294967296 rest) 0 (j : Int) = some ((Zk 4294967296 rest).take j) := by
        unfold Zrb; rw [if_pos ⟨by omega, by omega, by omega⟩]; simp
      obtain ⟨r, hr⟩ : ∃ r, r = p % v := ⟨_, rfl⟩; rw [← hr] at hpq hpr; have cD : ZGc p (v * q) = some r := by
        unfold ZGc; rw [if_pos ⟨okp p hp1, by omega⟩]; exact congrArg some (by omega)
      have htl : ((Zk 4294967296 rest).take j).length = j := by rw [List.length_take]; omega
      have hrlen : (Zk 4294967296 r).length ≤ l + 1 := by rw [← hlv]; exact Zkd (by decide) (by omega)
      rw [Zja hjo, Zc, cC, Zc, ZJe (by simp only [List.nil_append, htl]; omega), Zc, Zc, cD, Zc, ZJe (by simp only [List.nil_append, List.length_append, htl]; omega), Zc]; unfold Z3b; rw [Zc, Zc, List.nil_append, Zdd, htl, Zab (by decide), ZFq (by decide) _ (by omega)]; have cW : IntKind.u32.wrap (q : Int) = (q : Int) := by rw [wrap_u32]; omega
      rw [cW, Int.toNat_natCast]; simp only; rw [cend, Zc]; have hnew : rest % 4294967296 ^ j + 4294967296 ^ j * r + v * (4294967296 ^ j * q) = rest := by
        rw [← hrp, ← hpq]; grind
      refine ⟨_, rfl, ⟨j, rfl, by omega, by simp [ho], hd.set _ (by omega), fun i hi hij => ?_, ?_, ?_, ?_⟩, by simp⟩
      · simp only at hi ⊢; rw [List.getElem_set_ne (by omega)]; exact hz i (by simpa using hi) (by omega)
      · simp only; have := Nat.mul_le_mul_left (4294967296 ^ j) (show r + 1 ≤ v by omega); rw [Nat.mul_add, Nat.mul_comm (4294967296 ^ j) v] at this; omega
      · simp only; omega
      · simp only; have e6 : (out.set j (q : Int)).drop j = (q : Int) :: out.drop (j + 1) := by
          rw [List.drop_eq_getElem_cons (by simpa using hjo), List.getElem_set_self, List.drop_set_of_lt (by omega)]
        rw [e6]; simp only [val, Int.toNat_natCast]; rw [he]
        conv => lhs; rw [← hnew]
        rw [Nat.pow_succ]; grind
  · rintro ⟨rest, out⟩ ⟨h1, h2, h3⟩; simp only at h1 h2 h3 ⊢; rw [Zc]; simp only; unfold Z3b; have hrl : (Zk 4294967296 rest).length ≤ M + 1 := by
      have := Zkd (B := 4294967296) (by decide) h2; have := ZGh hraM; omega
    have cL : ZXf rest (up : Int) = some (rest / 2 ^ up) := by unfold ZXf; rw [if_pos ⟨by unfold ZRa; omega, by omega⟩, Int.toNat_natCast]
    rw [Zc, cL, Zc]; rw [hv] at h1 h3; rw [hra] at h3; obtain ⟨e1, e2⟩ := quo_end (Nat.pos_of_ne_zero hb0) hR h1 h3; rw [e1, e2]
theorem Zep {n m : Nat} {z : Nat × Nat} (h : Z9c n m = some z) : ZRg n m = some z := by
  unfold Z9c at h; split at h
  · rename_i hh; rw [Zdq hh.1 hh.2.1 hh.2.2, h]
  · cases h
noncomputable def ZSh (a : Nat) (b : Nat) : Option (Nat) :=
 bnd (bnd (Zea (fun s : Nat × Nat=>match s with
 | (d,c) =>
 (ifb (decide ((0 : Int) < (((Zk 4294967296 c)).length : Int)))
 (bnd (Z9c d c) fun e =>
 some (.inl ((c,e.2))))
 (some (.inr d)))) Zta ((a,b)))
 (fun (f : Nat) =>
 (some f)))
 (fun (g : Nat) =>
 (some g))
noncomputable def Zlj (s : Bool) (n : Nat) (d : Nat) : Option (Rat) :=
 ifb (((((Zk 4294967296 n)).length : Int)) == ((0 : Int)))
 (bnd (Zqc ([(1 : Int)])) fun b =>
 bnd (ZTe false ((0 : Nat)) b) fun c =>
 some c)
 (bnd (rgcF n d) fun a =>
 bnd (Z9c n a) fun e =>
 bnd (Z9c d a) fun f =>
 bnd (ZTe s e.1 f.1) fun g =>
 some g)
theorem Z1k {n m : Nat} (h : n ≤ m) (hm : Zgb m) : Zgb n := by
  have := Zkd (B := 4294967296) (by decide) h; unfold Zgb at *; omega
theorem Zwk {n : Nat} (h : Zgb n) : bl n ≤ 2199023255552 := by
  unfold Zgb at h; have h1 := ZOc (B := 4294967296) (by decide) n; have h2 : 4294967296 ^ (Zk 4294967296 n).length = 2 ^ (32 * (Zk 4294967296 n).length) := by rw [Nat.pow_mul]
  rw [h2] at h1; have := ZJb h1; omega
theorem sm32_of {n k : Nat} (h : bl n ≤ 32 * k) (hk : k ≤ 68719476736) : Zgb n := by
  unfold Zgb; refine Nat.le_trans (Zgf (B := 4294967296) (k := k) (by decide) ?_) hk; have h1 := Z6e n; have h2 : 4294967296 ^ k = 2 ^ (32 * k) := by rw [Nat.pow_mul]
  rw [h2]; exact Nat.lt_of_lt_of_le h1 (Nat.pow_le_pow_right (by omega) h)
theorem ZPl {n : Nat} (h : bl n ≤ 2199023255552) : Zgb n := sm32_of (k := (bl n + 31) / 32) (by omega) (by omega)
theorem rgcd_eq {n m : Nat} (hn : Zgb n) (hm : Zgb m) : ZSh n m = some (Nat.gcd n m) := by
  unfold ZSh; rw [Z1a]; refine Zkb (fun s : Nat × Nat => Zgb s.1 ∧ Zgb s.2 ∧ Nat.gcd s.1 s.2 = Nat.gcd n m) (fun s => 2 * (bl s.1 + bl s.2) + if s.1 < s.2 then 1 else 0) (fun r : Nat => r = Nat.gcd n m) ⟨hn, hm, rfl⟩
    (ZTa (by have := Zwk hn; have := Zwk hm; simp only; split <;> omega)) ?_ ?_
  · rintro ⟨a, b⟩ ⟨ha, hb, hg⟩; simp only at ha hb hg ⊢; rw [ZVk]; by_cases h0 : b = 0
    · right; subst h0; exact ⟨_, rfl, by rw [← hg, Nat.gcd_zero_right]⟩
    · left; have h1 : Z9c a b = some (a / b, a % b) := by unfold Z9c; rw [if_pos ⟨ha, hb, h0⟩]
      have hlt : a % b < b := Nat.mod_lt _ (by omega); rw [decide_eq_true h0, ZJ, h1, Zc]; refine ⟨_, rfl, ⟨hb, Z1k (Nat.le_of_lt hlt) hb, ?_⟩, ?_⟩
      · rw [← hg]; simp only; rw [Nat.gcd_comm b, ← Nat.gcd_rec, Nat.gcd_comm]
      · simp only; rw [if_neg (by omega)]; by_cases hab : a < b
        · rw [if_pos hab, Nat.mod_eq_of_lt hab]; omega
        · have := Zsm (a := a) (b := b) (by omega) h0; rw [if_neg hab]; omega
  · rintro r rfl; rw [Zc]
theorem rgcF_eq {n m z : Nat} (h : rgcF n m = some z) : ZSh n m = some z := by
  unfold rgcF at h; split at h
  · rename_i hh; rw [rgcd_eq hh.1 hh.2, h]
  · cases h
theorem Zuo {s : Bool} {n d : Nat} (hn : n ≠ 0) (hd : d ≠ 0) : decide ((mkRat (sgn s n) d).num < 0) = s ∧ (mkRat (sgn s n) d).num.natAbs = n / Nat.gcd n d ∧ (mkRat (sgn s n) d).den = d / Nat.gcd n d := by
  have e0 : (sgn s n).natAbs = n := by unfold sgn; split <;> omega
  have hg : 0 < Nat.gcd n d := Nat.gcd_pos_of_pos_left _ (Nat.pos_of_ne_zero hn); have hnum : (mkRat (sgn s n) d).num = sgn s n / (Nat.gcd n d : Int) := by rw [Rat.num_mkRat, Nat.gcd_comm, e0]; simp [hd, Nat.gcd_comm]
  have hden : (mkRat (sgn s n) d).den = d / Nat.gcd n d := by rw [Rat.den_mkRat, e0]; simp [hd, Nat.gcd_comm]
  obtain ⟨k, hk⟩ := Nat.gcd_dvd_left n d; have hk0 : k ≠ 0 := by rintro rfl; simp at hk; exact hn hk
  have hq : sgn s n / (Nat.gcd n d : Int) = sgn s k := by
    have : sgn s n = sgn s k * (Nat.gcd n d : Int) := by
      unfold sgn
      conv => lhs; rw [hk]
      split <;> grind
    rw [this, Int.mul_ediv_cancel _ (by omega)]
  have hnk : n / Nat.gcd n d = k := Nat.div_eq_of_eq_mul_right hg hk; rw [hnum, hq, hnk]; refine ⟨?_, by unfold sgn; split <;> omega, hden⟩
  cases s
  · apply decide_eq_false; simp only [sgn]; simp
  · apply decide_eq_true; simp only [sgn]; simp; omega
theorem ZLn {s : Bool} {n d : Nat} (hn : n ≠ 0) (hd : d ≠ 0) : ZTe s (n / Nat.gcd n d) (d / Nat.gcd n d) = some (mkRat (sgn s n) d) := by
  obtain ⟨h1, h2, h3⟩ := Zuo (s := s) hn hd; have := Zym (mkRat (sgn s n) d); rw [h1, h2, h3] at this; exact this
theorem ZEq : ZTe false 0 1 = some 0 := Zym 0
theorem Z8p {s : Bool} {n d : Nat} {z : Rat} (h : ZAb s n d = some z) : Zlj s n d = some z := by
  unfold ZAb at h; split at h
  · rename_i hh; obtain ⟨h1, h2, h3⟩ := hh
    cases h
    unfold Zlj; rw [ZAj]; by_cases h0 : n = 0
    · subst h0; rw [decide_eq_true rfl, ZJ, ZSg, Zc, ZEq, Zc]; have e : sgn s 0 = 0 := by cases s <;> rfl
      rw [e, Rat.zero_mkRat]
    · have e1 : rgcF n d = some (Nat.gcd n d) := by unfold rgcF; rw [if_pos ⟨h1, h2⟩]
      have hg : Nat.gcd n d ≠ 0 := by have := Nat.gcd_pos_of_pos_left d (Nat.pos_of_ne_zero h0); omega
      have okg : Zgb (Nat.gcd n d) := Z1k (Nat.gcd_le_left _ (Nat.pos_of_ne_zero h0)) h1; have e2 : Z9c n (Nat.gcd n d) = some (n / Nat.gcd n d, n % Nat.gcd n d) := by unfold Z9c; rw [if_pos ⟨h1, okg, hg⟩]
      have e3 : Z9c d (Nat.gcd n d) = some (d / Nat.gcd n d, d % Nat.gcd n d) := by unfold Z9c; rw [if_pos ⟨h2, okg, hg⟩]
      rw [decide_eq_false h0, ZF, e1, Zc, e2, Zc, e3, Zc, ZLn h0 h3, Zc]
  · cases h
noncomputable def ZOg (n : Int) : Option (Rat) :=
 ifb (decide (n < (0 : Int)))
 (bnd (ZNc (IntKind.u64.wrap (-(IntKind.u64.wrap n)))) fun a =>
 bnd (Zqc ([(1 : Int)])) fun b =>
 bnd (ZAb true a b) fun c =>
 some c)
 (bnd (ZNc (IntKind.u64.wrap n)) fun d =>
 bnd (Zqc ([(1 : Int)])) fun e =>
 bnd (ZAb false d e) fun f =>
 some f)
noncomputable def Ztj (n : Int) (d : Int) : Option (Rat × Int) :=
 ifb (d == ((0 : Int)))
 (bnd (Zfc ((0 : Int))) fun c =>
 some ((c,(3 : Int))))
 (bnd (Zfc n) fun a =>
 bnd (Zfc d) fun b =>
 bnd (ZAb ((decide (a.num < 0)) != (decide (b.num < 0))) a.num.natAbs b.num.natAbs) fun e =>
 some ((e,(0 : Int))))
noncomputable def ZGj (r : (Int × Int)) : Option (Rat) :=
 ifb (r.2 == ((0 : Int)))
 (bnd (Zfc r.1) fun a =>
 some a)
 (bnd (Zyg r.1 r.2) fun b =>
 some b.1)
noncomputable def Zwj (x : Rat) : Option (Int) :=
 bnd (ZXd x) fun a =>
 ifb (a)
 (some ((0 : Int)))
 (ifb (decide (x.num < 0))
 (some ((-1 : Int)))
 (some ((1 : Int))))
theorem ZPf {n : Nat} (h : n ≤ 18446744073709551616) : Zgb n := ZPl (Nat.le_trans (ZJb (show n < 2 ^ 65 by omega)) (by decide))
theorem mkRat_one (n : Int) : mkRat n 1 = (n : Rat) := by
  have := Rat.mkRat_self (n : Rat)
  simpa using this
theorem Zkp {n : Int} (h1 : -9223372036854775808 ≤ n) (h2 : n ≤ 9223372036854775807) : ZOg n = some (n : Rat) := by
  unfold ZOg; rw [ZSg]; unfold ZNc ZAb; by_cases h : n < 0
  · obtain ⟨k, rfl⟩ : ∃ k : Nat, n = -(k : Int) := ⟨n.natAbs, by omega⟩; have e1 : IntKind.u64.wrap (-(IntKind.u64.wrap (-(k : Int)))) = (k : Int) := by rw [wrap_u64, wrap_u64]; omega
    rw [decide_eq_true h, ZJ, e1, Zc, Zc, Int.toNat_natCast, if_pos ⟨ZPf (by omega), ZPf (by omega), by omega⟩, Zc, mkRat_one]; rfl
  · obtain ⟨k, rfl⟩ := Int.eq_ofNat_of_zero_le (show 0 ≤ n by omega); rw [decide_eq_false h, ZF, ZRb (by omega), Zc, Zc, Int.toNat_natCast, if_pos ⟨ZPf (by omega), ZPf (by omega), by omega⟩, Zc, mkRat_one]; rfl
theorem ZTp {n : Int} {z : Rat} (hn : inR .i64 n) (h : Zfc n = some z) : ZOg n = some z := by
  have := ZFb.1 hn; unfold Zfc at h; rw [Zkp (by omega) (by omega), h]
theorem Zlp (n m : Int) : sgn (decide (n < 0) != decide (m < 0)) n.natAbs = if m < 0 then -n else n := by
  have := Z8k n m; unfold ZUb at this; exact Option.some.inj this
theorem Zoo {n d : Int} {z : Rat × Int} (hn : inR .i64 n) (hd : inR .i64 d) (h : Zyg n d = some z) : Ztj n d = some z := by
  have hn := ZFb.1 hn; have hd := ZFb.1 hd; unfold Zyg at h
  cases h
  unfold Ztj Zfc; by_cases h0 : d = 0
  · subst h0; rfl
  · have e0 : (d == 0) = false := by simp [h0]
    rw [e0, ZF, if_neg h0, Zc, Zc]; unfold ZAb; rw [Rat.num_intCast, Rat.num_intCast, if_pos ⟨ZPf (by omega), ZPf (by omega), by omega⟩, Zc, Zlp, ← Zgi]
theorem rofF_eq {r : Int × Int} {z : Rat} (h : rofF r = some z) : ZGj r = some z := by
  unfold rofF at h
  cases h
  unfold ZGj Zoe Zfc Zyg; by_cases h0 : r.2 = 0
  · rw [if_pos h0, h0]; rfl
  · have : (r.2 == 0) = false := by simp [h0]
    rw [this, ZF, Zc, if_neg h0, if_neg h0]
theorem Zmn {x : Rat} {z : Int} (h : Z8e x = some z) : Zwj x = some z := by
  unfold Z8e at h
  cases h
  unfold Zwj ZXd; rw [Zc]; by_cases h0 : x = 0
  · subst h0; rfl
  · have := Z6i h0; rw [decide_eq_false h0, ZF]; by_cases h1 : x.num < 0
    · rw [decide_eq_true h1, ZJ, Int.sign_eq_neg_one_of_neg h1]
    · rw [decide_eq_false h1, ZF, Int.sign_eq_one_of_pos (by omega)]
end Go.Eng
namespace Go.Eng
open Go.RowKit
def Zal (P : Program) (f : FuncId) (T e : TypeId) : Prop := ∀ (B b : Nat) (bs : List Value) (s : ByteArray) (w : World), Lib.IsBuilder T e B b bs w → bs.length + s.size ≤ 140737488355328 → B ≤ w.heap.size →
  Calls P f #[.pointer (some ⟨b, 0, none⟩), .string s] w fun x w' => x = .returned (.tuple #[.int .i64 s.size, .nilIface]) ∧ (Lib.BuilderAt T e B b (.pointer (some ⟨b, 0, none⟩)) (bs ++ Lib.strCells s) w' ∧ Below B w w')
def Tells (P : Program) (f : FuncId) (T e : TypeId) : Prop := ∀ (B b : Nat) (l : List UInt8) (w : World), Lib.IsBuilder T e B b (Lib.byteCells l) w → B ≤ w.heap.size →
  Calls P f #[.pointer (some ⟨b, 0, none⟩)] w fun x w' => x = .returned (.string ⟨l.toArray⟩) ∧ Below B w w'
structure Bld (T e b : Nat) (w0 : Base) (v : Ze) (m : List UInt8) (w : World) : Prop where
  is : Lib.IsBuilder T e b b (Lib.byteCells m) w
  old : ∀ k o, v k = some o → k < b
  base : w0.wd.heap.size ≤ b
  lt : b ≤ w.heap.size
variable {P : Program} {K : Nat} {w0 : Base} {v0 : Ze} {σ : List (Nat × Value)} {ℓ : List Loc} {v : Ze} {a : Act} {w : World}
variable {ops : Array Oper} {Q : Exit → Act → World → Prop} {rest : List Oper}
theorem St.below {w' : World} {b : Nat} (h : St K w0 v0 σ [] v a w) (x : Below b w w') (hv : ∀ k o, v k = some o → k < b) (hb : w0.wd.heap.size ≤ b) : St K w0 v0 σ [] v a w' :=
  ⟨h.size, h.dfr, h.fr, ⟨x.os.trans h.ext.os, x.tape.trans h.ext.tape, x.output.trans h.ext.output, Nat.le_trans h.ext.size x.size, fun k hk hn => (x.block k (by omega)).trans (h.ext.block k hk hn)⟩,
    ⟨h.vst.le, fun k o e => (x.block k (hv k o e)).trans (h.vst.vin k o e), h.vst.old⟩, fun e he => by simp at he, List.nodup_nil⟩
theorem op_newB {o : Oper} {d T : Nat} (e : Nat) (hS : St K w0 v0 σ ℓ v a w) (hw : Region.wanted o (yielded ops a.tmps) = true) (hd : o.dst = some d) (hK : d < K)
    (hrun : (execOp a.eval o).run P w = .ok (.value (.pointer (some ⟨w.heap.size, 0, none⟩))) (w.alloc (.cells #[.pointer none, .slice none 0 0] T)))
    (h : ∀ b a w, St K w0 v0 ((d, .pointer (some ⟨b, 0, none⟩)) :: σ) [] v a w → Bld T e b w0 v [] w → wpList P ops Q rest a w) : wpList P ops Q (o :: rest) a w :=
  ZOd hw (ZQe hrun (by
    rw [hd]
    have h1 : St K w0 v0 σ [] v a w := hS.drop (List.nil_sublist _)
    have h2 : Ext w (w.alloc (.cells #[.pointer none, .slice none 0 0] T)) := Ext.alloc w _
    exact h w.heap.size _ _ ((h1.step h2 (VStep.ext h1.vin h2)).put _ hK) ⟨Lib.fresh_isBuilder T e w, fun k o hk => h1.vin.lt hk, h1.ext.size, h2.size⟩))
theorem Zxo (l l' : List UInt8) : Lib.byteCells l ++ Lib.strCells (Z9 l') = Lib.byteCells (l ++ l') := by simp [Lib.byteCells, Lib.strCells, Z9]
theorem Z1o {o : Oper} {d f T e b : Nat} {m s : List UInt8} (hW : Zal P f T e) (hB : Bld T e b w0 v m w) (hl : (m ++ s).length ≤ 140737488355328) (hS : St K w0 v0 σ [] v a w) (hw : Region.wanted o (yielded ops a.tmps) = true) (hd : o.dst = some d) (hK : d < K)
    (hrun : (execOp a.eval o).run P w = .ok (.enter f #[.pointer (some ⟨b, 0, none⟩), .string (Z9 s)]) w)
    (h : ∀ a w, St K w0 v0 ((d, .tuple #[.int .i64 s.length, .nilIface]) :: σ) [] v a w → Bld T e b w0 v (m ++ s) w → wpList P ops Q rest a w) : wpList P ops Q (o :: rest) a w := by
  have hc := hW b b (Lib.byteCells m) (Z9 s) w hB.is (by rw [Lib.byteCells_length, ZAd, ← List.length_append]; exact hl) hB.lt; refine ZOd hw (ZUf hrun (Calls.mono hc fun x w' ⟨e1, e2, e3⟩ => ⟨_, e1, ?_⟩)); rw [hd]; rw [ZAd] at *; rw [Zxo] at e2; exact h _ _ ((hS.below e3 hB.old hB.base).put _ hK) ⟨.inr e2, hB.old, hB.base, Nat.le_trans hB.lt e3.size⟩
theorem op_tell {o : Oper} {d f T e b : Nat} {m : List UInt8} (hT : Tells P f T e) (hB : Bld T e b w0 v m w) (hS : St K w0 v0 σ [] v a w) (hw : Region.wanted o (yielded ops a.tmps) = true) (hd : o.dst = some d) (hK : d < K)
    (hrun : (execOp a.eval o).run P w = .ok (.enter f #[.pointer (some ⟨b, 0, none⟩)]) w)
    (h : ∀ a w, St K w0 v0 ((d, .string (Z9 m)) :: σ) [] v a w → wpList P ops Q rest a w) : wpList P ops Q (o :: rest) a w := by
  have hc := hT b b m w hB.is hB.lt; refine ZOd hw (ZUf hrun (Calls.mono hc fun x w' ⟨e1, e3⟩ => ⟨_, e1, ?_⟩)); rw [hd]; exact h _ _ ((hS.below e3 hB.old hB.base).put _ hK)
def ZGg (l : List UInt8) : Option Unit := if l.length ≤ 140737488355328 then some () else none
theorem ZHp {l : List UInt8} {u : Unit} (h : ZGg l = some u) : l.length ≤ 140737488355328 := by
  unfold ZGg at h; split at h
  · assumption
  · cases h
theorem ZEn {q : Option Nat} {b o : Nat} (h : mkA q = some ⟨b, o, none⟩) : q = some b ∧ o = 0 := by
  cases q with
  | none => cases h
  | some c => cases h; exact ⟨rfl, rfl⟩
noncomputable def ZMh (a : Nat) : Option ((List UInt8)) :=
 bnd (bnd (Zea (fun s : Nat × (List UInt8)=>match s with
 | (e,f) =>
 (ifb (decide ((0 : Int) < (((Zk 4294967296 e)).length : Int)))
 (bnd (Z4e e ((1000000000 : Int))) fun c =>
 bnd (bnd (Zea (fun s : (List UInt8) × Int × Int=>match s with
 | (d,b,g) =>
 (bnd (ifb (decide (g < (9 : Int)))
 (ifb (decide ((0 : Int) < (((Zk 4294967296 c.1)).length : Int)))
 (some true)
 (some (decide ((0 : Int) < b))))
 (some false))
 (fun (j : Bool) =>
 (ifb (j)
 (bnd (rem .u32 b ((10 : Int))) fun k =>
 bnd (rem .u32 b ((10 : Int))) fun l =>
 bnd (Zrb (([48,49,50,51,52,53,54,55,56,57] : List UInt8)) k (IntKind.u32.wrap (l + ((1 : Int))))) fun h =>
 bnd (Zpc (h ++ d)) fun r =>
 bnd (quo .u32 b ((10 : Int))) fun m =>
 bnd (chk .i64 (g + ((1 : Int)))) fun n =>
 some (.inl (((h ++ d),m,n))))
 (some (.inr d)))))) Zta ((f,c.2,(0 : Int))))
 (fun (o : (List UInt8)) =>
 (some o)))
 (fun (p : (List UInt8)) =>
 (some (.inl ((c.1,p))))))
 (some (.inr f)))) Zta ((a,([] : List UInt8))))
 (fun (q : (List UInt8)) =>
 (some q)))
 (fun (i : (List UInt8)) =>
 (ifb (i == (([] : List UInt8)))
 (some (([48] : List UInt8)))
 (some i)))
noncomputable def Z3g (a : Nat) : Option ((List UInt8)) :=
 bnd (bnd (Zea (fun s : Nat × (List (List UInt8))=>match s with
 | (h,c) =>
 (ifb (decide ((0 : Int) < (((Zk 18446744073709551616 h)).length : Int)))
 (bnd (ZBe h ((10000000000000000000 : Int))) fun d =>
 bnd (Ztg d.2) fun b =>
 bnd (ifb (decide ((0 : Int) < (((Zk 18446744073709551616 d.1)).length : Int)))
 (bnd (chk .i64 (((19 : Int)) - ((b.length : Int)))) fun m =>
 bnd (Z1f (([48] : List UInt8)) m) fun i =>
 bnd (Zpc (i ++ b)) fun r =>
 some ((i ++ b)))
 (some b))
 (fun (j : (List UInt8)) =>
 (bnd (Zpb 16 (c ++ [j])) fun t =>
 some (.inl ((d.1,(c ++ [j])))))))
 (some (.inr c)))) Zta ((a,([] : (List (List UInt8))))))
 (fun (n : (List (List UInt8))) =>
 (some n)))
 (fun (e : (List (List UInt8))) =>
 (ifb (((e.length : Int)) == ((0 : Int)))
 (some (([48] : List UInt8)))
 (bnd (chk .i64 (((e.length : Int)) - ((1 : Int)))) fun o =>
 bnd (bnd (Zea (fun s : (List UInt8) × Int=>match s with
 | (f,g) =>
 (ifb (decide ((0 : Int) ≤ g))
 (bnd (idx e g) fun k =>
 bnd (ZGg (f ++ k)) fun u =>
 bnd (chk .i64 (g - ((1 : Int)))) fun p =>
 some (.inl (((f ++ k),p))))
 (some (.inr f)))) Zta ((([] : List UInt8),o)))
 (fun (q : (List UInt8)) =>
 (some q)))
 (fun (l : (List UInt8)) =>
 (bnd (Zpc l) fun v =>
 some l)))))
noncomputable def Zmj (x : Rat) : Option ((List UInt8)) :=
 bnd (Z3f ((x.num).natAbs)) fun a =>
 bnd (ifb (decide (x.num < 0))
 (bnd (Zpc ((([45] : List UInt8)) ++ a)) fun e =>
 some (((([45] : List UInt8)) ++ a)))
 (some a))
 (fun (b : (List UInt8)) =>
 (bnd (ifb (decide ((0 : Int) < (((Zk 18446744073709551616 ((Zub x.den)))).length : Int)))
 (bnd (Z3f ((Zub x.den))) fun c =>
 bnd (Zpc ((([47] : List UInt8)) ++ c)) fun f =>
 bnd (Zpc (b ++ (((([47] : List UInt8)) ++ c)))) fun g =>
 some ((b ++ (((([47] : List UInt8)) ++ c)))))
 (some b))
 (fun (d : (List UInt8)) =>
 (some d))))
theorem ZJi (n : Nat) : (ZKa n).length ≤ bl n := by
  induction n using Nat.strongRecOn with
  | ind n ih =>
    by_cases h : n = 0
    · subst h; rw [Z8c]; simp
    · rw [Z3e h, List.length_append]; have h1 := ih (n / 10) (by omega); have h2 : bl (n / 10) + 1 ≤ bl n := by
        rw [ZYi h]; exact Nat.add_le_add_right (Zke (by omega)) 1
      simp only [List.length_cons, List.length_nil]; omega
theorem ZHq {n k : Nat} (h : n < 10 ^ k) : (ZKa n).length ≤ k := by
  induction k generalizing n with
  | zero => simp at h; subst h; rw [Z8c]; simp
  | succ k ih =>
    by_cases h0 : n = 0
    · subst h0; rw [Z8c]; simp
    · rw [Z3e h0, List.length_append]; have := ih (n := n / 10) (by rw [Nat.pow_succ] at h; omega); simp only [List.length_cons, List.length_nil]; omega
theorem Zcr {q : Nat} (hq : q ≠ 0) : ∀ (k r : Nat), r < 10 ^ k → ZKa (q * 10 ^ k + r) = ZKa q ++ (List.replicate (k - (ZKa r).length) 48 ++ ZKa r) := by
  intro k
  induction k with
  | zero => intro r h; simp at h; subst h; rw [Z8c]; simp
  | succ k ih =>
    intro r h; rw [Nat.pow_succ] at h; have hn : q * 10 ^ (k + 1) + r ≠ 0 := by
      have : 0 < q * 10 ^ (k + 1) := Nat.mul_pos (by omega) (Nat.pow_pos (by omega)); omega
    have e1 : (q * 10 ^ (k + 1) + r) / 10 = q * 10 ^ k + r / 10 := by rw [Nat.pow_succ, ← Nat.mul_assoc]; generalize q * 10 ^ k = p; omega
    have e2 : (q * 10 ^ (k + 1) + r) % 10 = r % 10 := by rw [Nat.pow_succ, ← Nat.mul_assoc]; generalize q * 10 ^ k = p; omega
    rw [Z3e hn, e1, e2, ih (r / 10) (by omega)]; by_cases h0 : r = 0
    · subst h0; simp only [Nat.zero_div, Z8c, List.length_nil, Nat.sub_zero, List.append_nil, List.append_assoc]; congr 1; rw [List.replicate_succ']; rfl
    · rw [Z3e h0, List.length_append]; simp only [List.length_cons, List.length_nil, List.append_assoc]; rw [show k + 1 - ((ZKa (r / 10)).length + (0 + 1)) = k - (ZKa (r / 10)).length by omega]
theorem Zse {l : List UInt8} (h : l.length ≤ 140737488355328) : Zpc l = some () := by unfold Zpc; rw [if_pos (by unfold maxLen; omega)]
theorem ZBq {d : Nat} (h : d < 10) : Zrb ([48, 49, 50, 51, 52, 53, 54, 55, 56, 57] : List UInt8) (d : Int) ((d + 1 : Nat) : Int) = some [UInt8.ofNat (48 + d)] := by
  have : d = 0 ∨ d = 1 ∨ d = 2 ∨ d = 3 ∨ d = 4 ∨ d = 5 ∨ d = 6 ∨ d = 7 ∨ d = 8 ∨ d = 9 := by omega
  rcases this with rfl | rfl | rfl | rfl | rfl | rfl | rfl | rfl | rfl | rfl <;> rfl
theorem quo_u32 {p q : Nat} (hq : 0 < q) (hp : p < 4294967296) : quo .u32 (p : Int) (q : Int) = some ((p / q : Nat) : Int) := by
  unfold quo; rw [if_neg (by omega)]; have e : (p : Int).tdiv (q : Int) = ((p / q : Nat) : Int) := by simp [Int.tdiv_eq_ediv_of_nonneg]
  have h : p / q ≤ p := Nat.div_le_self _ _; generalize p / q = r at *; have h5 : inR .u32 (r : Int) := (show (0 : Int) ≤ (r : Int) ∧ (r : Int) ≤ 4294967295 from ⟨by omega, by omega⟩); rw [e, Zck h5]
theorem beq_nil {l : List UInt8} : (l == ([] : List UInt8)) = decide (l = []) := by
  cases l <;> rfl
theorem ZIl {n : Nat} : ZKa n = [] ↔ n = 0 := by
  constructor
  · intro h; rcases Nat.eq_zero_or_pos n with h0 | h0
    · exact h0
    · rw [Z3e (by omega)] at h; simp at h
  · rintro rfl; exact Z8c
theorem Zlq {a : Nat} (ha : Zgb a) : ZMh a = some (ZGb a) := by
  unfold ZMh; rw [Z1a]; have hbl := Zwk ha; refine Zkb (fun s : Nat × List UInt8 => Zgb s.1 ∧ ZKa s.1 ++ s.2 = ZKa a) (fun s => bl s.1) (fun r : List UInt8 => r = ZKa a) ⟨ha, by simp⟩ (ZTa (by simp only; omega)) ?_ ?_
  · rintro ⟨x, s⟩ ⟨hx, he⟩; simp only at hx he ⊢; rw [ZVk]; by_cases h0 : x = 0
    · right; subst h0; rw [show decide ((0 : Nat) ≠ 0) = false from rfl, ZF]; exact ⟨_, rfl, by rw [← he, Z8c]; rfl⟩
    · left; have e1 : Z4e x (1000000000 : Int) = some (x / 1000000000, ((x % 1000000000 : Nat) : Int)) := by
        unfold Z4e; rw [if_pos ⟨by unfold ZRa; unfold Zgb at hx; omega, by omega⟩]; rfl
      rw [decide_eq_true h0, ZJ, e1, Zc, Z1a]; have hslen : s.length ≤ 4398046511104 := by
        have := ZJi a; rw [← he, List.length_append] at this; omega
      refine Zbk (s := (s, ((x % 1000000000 : Nat) : Int), (0 : Int))) (fun t : List UInt8 × Int × Int => ∃ r k m : Nat, t.2.1 = (r : Int) ∧ t.2.2 = (k : Int) ∧ k + m = 9 ∧ r < 10 ^ m ∧ r < 1000000000 ∧ ZKa (x / 1000000000 * 10 ^ m + r) ++ t.1 = ZKa a) (fun t => 9 - t.2.2.toNat)
        (fun t : List UInt8 => ZKa (x / 1000000000) ++ t = ZKa a) ⟨x % 1000000000, 0, 9, rfl, rfl, rfl, Nat.mod_lt _ (by decide), Nat.mod_lt _ (by decide), by
          rw [show x / 1000000000 * 10 ^ 9 + x % 1000000000 = x by omega]; exact he⟩ (ZTa (by simp)) ?_ ?_
      · rintro ⟨t, r, k⟩ ⟨r, k, m, rfl, rfl, hk, hr, hr2, hd⟩; simp only at hd ⊢; rw [ZVk]; have htl : t.length ≤ 4398046511104 := by
          have := ZJi a; rw [← hd, List.length_append] at this; omega
        have cond : ifb (decide ((k : Int) < 9)) (ifb (decide (x / 1000000000 ≠ 0)) (some true) (some (decide ((0 : Int) < (r : Int))))) (some false) = some (decide (k < 9 ∧ x / 1000000000 * 10 ^ m + r ≠ 0)) := by
          by_cases h1 : k < 9
          · rw [decide_eq_true (by omega), ZJ]; by_cases h2 : x / 1000000000 = 0
            · rw [decide_eq_false (by simp [h2]), ZF, h2]; exact congrArg some (decide_eq_decide.2 (by omega))
            · rw [decide_eq_true h2, ZJ]; have : 0 < x / 1000000000 * 10 ^ m := Nat.mul_pos (by omega) (Nat.pow_pos (by omega)); rw [decide_eq_true ⟨h1, by omega⟩]
          · rw [decide_eq_false (by omega), ZF, decide_eq_false (by omega)]
        rw [cond, Zc]; by_cases hc : k < 9 ∧ x / 1000000000 * 10 ^ m + r ≠ 0
        · left; obtain ⟨h1, h2⟩ := hc; obtain ⟨m, rfl⟩ : ∃ j, m = j + 1 := ⟨m - 1, by omega⟩; have c1 : rem .u32 (r : Int) 10 = some ((r % 10 : Nat) : Int) := Z5e (q := 10) (by omega); have c2 : quo .u32 (r : Int) 10 = some ((r / 10 : Nat) : Int) := quo_u32 (q := 10) (by omega) (by omega); have c3 : IntKind.u32.wrap (((r % 10 : Nat) : Int) + 1) = ((r % 10 + 1 : Nat) : Int) := by rw [wrap_u32]; omega
          have c4 : chk .i64 ((k : Int) + 1) = some ((k + 1 : Nat) : Int) := by rw [show (k : Int) + 1 = ((k + 1 : Nat) : Int) by omega, Zmb (by omega)]
          rw [decide_eq_true ⟨h1, h2⟩, ZJ, c1, Zc, Zc, c3, ZBq (Nat.mod_lt _ (by omega)), Zc, Zse (by simp; omega), Zc, c2, Zc, c4, Zc]; rw [Nat.pow_succ] at hr; refine ⟨_, rfl, ⟨r / 10, k + 1, m, rfl, rfl, by omega, by omega, by omega, ?_⟩, by simp; omega⟩; simp only; rw [← hd, Z3e h2, List.append_assoc]; have e2 : (x / 1000000000 * 10 ^ (m + 1) + r) / 10 = x / 1000000000 * 10 ^ m + r / 10 := by rw [Nat.pow_succ, ← Nat.mul_assoc]; generalize x / 1000000000 * 10 ^ m = p; omega
          have e3 : (x / 1000000000 * 10 ^ (m + 1) + r) % 10 = r % 10 := by rw [Nat.pow_succ, ← Nat.mul_assoc]; generalize x / 1000000000 * 10 ^ m = p; omega
          rw [e2, e3]
        · right; rw [decide_eq_false hc, ZF]; refine ⟨_, rfl, ?_⟩; rw [← hd]; congr 2; by_cases hm : m = 0
          · subst hm; simp at hr; simp [hr]
          · have h2 : x / 1000000000 * 10 ^ m + r = 0 := by
              rcases Nat.eq_zero_or_pos (x / 1000000000 * 10 ^ m + r) with h | h
              · exact h
              · exact absurd ⟨by omega, by omega⟩ hc
            have h3 : x / 1000000000 * 10 ^ m = 0 := by omega
            rcases Nat.mul_eq_zero.1 h3 with h | h
            · rw [h2, h]
            · exact absurd h (Nat.pos_iff_ne_zero.1 (Nat.pow_pos (by omega)))
      · rintro t ht; rw [Zc]; refine ⟨_, rfl, ⟨Z1k (Nat.div_le_self _ _) hx, ht⟩, ?_⟩; simp only; have := ZYi h0; have h3 : bl (x / 1000000000) ≤ bl (x / 2) := Zke (by omega); omega
  · rintro r rfl; rw [Zc, beq_nil]; unfold ZGb; by_cases h0 : a = 0
    · subst h0; rw [decide_eq_true Z8c, ZJ, if_pos rfl]
    · rw [decide_eq_false (fun h => h0 (ZIl.1 h)), ZF, if_neg h0]
theorem Z4o {n : Nat} {z : List UInt8} (h : Zcg n = some z) : ZMh n = some z := by
  unfold Zcg at h; split at h
  · rename_i hh; rw [Zlq hh, h]
  · cases h
theorem ZAn (r : List (List UInt8)) (j : Nat) : ((r.drop j).reverse.flatten).length ≤ r.reverse.flatten.length := by
  have h : r.reverse.flatten = (r.drop j).reverse.flatten ++ (r.take j).reverse.flatten := by
    rw [← List.flatten_append, ← List.reverse_append, List.take_append_drop]
  rw [h, List.length_append]; omega
theorem ZQl (c : UInt8) : ∀ k : Nat, (List.replicate k [c]).flatten = List.replicate k c
  | 0 => rfl
  | k + 1 => by rw [List.replicate_succ, List.flatten_cons, ZQl c k, List.replicate_succ]; rfl
theorem text_eq {a : Nat} (ha : okN a) : Z3g a = some (ZGb a) := by
  unfold Z3g; have hbl := ZLk ha; have hda := ZJi a; rw [Z1a]; refine Zkb (fun s : Nat × List (List UInt8) => okN s.1 ∧ ZKa s.1 ++ s.2.reverse.flatten = ZKa a ∧ bl s.1 + s.2.length ≤ bl a) (fun s => bl s.1) (fun r : List (List UInt8) => r.reverse.flatten = ZKa a ∧ r.length ≤ bl a ∧ (a ≠ 0 → r ≠ [])) ⟨ha, by simp, by simp⟩ (ZTa (by simp only; omega)) ?_ ?_
  · rintro ⟨x, s⟩ ⟨hx, he, hl⟩; simp only at hx he hl ⊢; by_cases h0 : x = 0
    · right; subst h0; rw [Z8a, show decide ((0 : Int) < (([] : List Int).length : Int)) = false from rfl, ZF]; rw [Z8c, List.nil_append] at he; refine ⟨_, rfl, he, by omega, fun h1 h2 => ?_⟩; subst h2; exact h1 (ZIl.1 he.symm)
    · left; have hpos := List.length_pos_iff.2 ((Zgd (n := x) (B := 18446744073709551616) (by decide)).2 h0); have e1 : ZBe x (10000000000000000000 : Int) = some (x / 10000000000000000000, ((x % 10000000000000000000 : Nat) : Int)) := by
        unfold ZBe; rw [if_pos ⟨hx, by omega⟩]; rfl
      have e2 : Ztg ((x % 10000000000000000000 : Nat) : Int) = some (ZKa (x % 10000000000000000000)) := by unfold Ztg; rw [Int.toNat_natCast]
      rw [decide_eq_true (show (0 : Int) < ((Zk 18446744073709551616 x).length : Int) by omega), ZJ, e1, Zc]; simp only; rw [e2, Zc]; have hr : (ZKa (x % 10000000000000000000)).length ≤ 19 := ZHq (k := 19) (Nat.mod_lt _ (by decide)); have hb2 : bl (x / 10000000000000000000) + 1 ≤ bl x := by
        rw [ZYi h0]; exact Nat.add_le_add_right (Zke (by omega)) 1
      have hsplit : ∃ p : List UInt8, ifb (decide ((0 : Int) < ((Zk 18446744073709551616 (x / 10000000000000000000)).length : Int))) (bnd (chk .i64 (19 - ((ZKa (x % 10000000000000000000)).length : Int))) fun y218 => bnd (Z1f [48] y218) fun y220 => bnd (Zpc (y220 ++ ZKa (x % 10000000000000000000))) fun y227 => some (y220 ++ ZKa (x % 10000000000000000000))) (some (ZKa (x % 10000000000000000000))) = some p ∧ ZKa (x / 10000000000000000000) ++ p = ZKa x := by
        by_cases hq : x / 10000000000000000000 = 0
        · refine ⟨_, by rw [hq, Z8a]; rfl, ?_⟩; rw [hq, Z8c, List.nil_append]; congr 1; omega
        · have hpos := List.length_pos_iff.2 ((Zgd (n := x / 10000000000000000000) (B := 18446744073709551616) (by decide)).2 hq); obtain ⟨k, hk⟩ : ∃ k, k = 19 - (ZKa (x % 10000000000000000000)).length := ⟨_, rfl⟩; have e3 : chk .i64 (19 - ((ZKa (x % 10000000000000000000)).length : Int)) = some (k : Int) := by rw [show (19 - ((ZKa (x % 10000000000000000000)).length : Int)) = (k : Int) by omega, Zmb (by omega)]
          have e4 : Z1f [48] (k : Int) = some (List.replicate k 48) := by
            unfold Z1f; rw [if_pos ⟨by omega, by simp; omega⟩, Int.toNat_natCast, ZQl]
          refine ⟨List.replicate k 48 ++ ZKa (x % 10000000000000000000), ?_, ?_⟩
          · rw [decide_eq_true (by omega), ZJ, e3, Zc, e4, Zc, Zse (by simp; omega), Zc]
          · have := Zcr hq 19 (x % 10000000000000000000) (Nat.mod_lt _ (by decide)); rw [show x / 10000000000000000000 * 10 ^ 19 + x % 10000000000000000000 = x by omega] at this; rw [this, hk]
      obtain ⟨p, ep, hp⟩ := hsplit; rw [ep, Zc, ZJe (by simp; omega), Zc]; refine ⟨_, rfl, ⟨Z8j (Nat.div_le_self _ _) hx, ?_, by simp; omega⟩, by simp only; omega⟩; simp only [List.reverse_append, List.reverse_cons, List.reverse_nil, List.nil_append, List.singleton_append, List.flatten_cons]; rw [← List.append_assoc, hp, he]
  · rintro r ⟨hr, hl, hne⟩; rw [Zc]; by_cases h0 : a = 0
    · subst h0; have : r = [] := by
        have := hl; simp [bl] at this; exact this
      subst this; rfl
    · have hne := hne h0; have hpos : 0 < r.length := List.length_pos_iff.2 hne; have e1 : ((r.length : Int) == 0) = false := beq_false_of_ne (by omega); rw [e1, ZF, Zda (by omega) (by omega), Zc, Z1a]; unfold ZGb; rw [if_neg h0]; refine Zkb (fun s : List UInt8 × Int => ∃ k : Nat, s.2 = (k : Int) - 1 ∧ k ≤ r.length ∧ s.1 = (r.drop k).reverse.flatten) (fun s => (s.2 + 1).toNat) (fun t : List UInt8 => t = ZKa a) ⟨r.length, rfl, by omega, by simp⟩ (ZTa (by simp only; omega)) ?_ ?_
      · rintro ⟨s, i⟩ ⟨k, hi, hk, hs⟩; simp only at hi hs ⊢; subst hi hs; by_cases hk0 : k = 0
        · right; subst hk0; rw [show decide ((0 : Int) ≤ ((0 : Nat) : Int) - 1) = false from rfl, ZF]; exact ⟨_, rfl, by rw [List.drop_zero]; exact hr⟩
        · left; obtain ⟨j, rfl⟩ : ∃ j, k = j + 1 := ⟨k - 1, by omega⟩; have ej : ((j + 1 : Nat) : Int) - 1 = (j : Int) := by omega
          have hj : j < r.length := by omega
          have hnew : (r.drop (j + 1)).reverse.flatten ++ r[j] = (r.drop j).reverse.flatten := by
            rw [List.drop_eq_getElem_cons hj, List.reverse_cons, List.flatten_append]; simp
          have hlen : ((r.drop j).reverse.flatten).length ≤ r.reverse.flatten.length := ZAn r j; rw [hr] at hlen; have e2 : ZGg ((r.drop (j + 1)).reverse.flatten ++ r[j]) = some () := by unfold ZGg; rw [if_pos (by rw [hnew]; omega)]
          rw [ej, decide_eq_true (show (0 : Int) ≤ (j : Int) by omega), ZJ, Zja hj, Zc, e2, Zc, Zda (by omega) (by omega), Zc]; exact ⟨_, rfl, ⟨j, rfl, by omega, hnew⟩, by simp⟩
      · rintro t rfl; rw [Zc, Zse (by omega), Zc]
theorem Z7o {n : Nat} {z : List UInt8} (h : Z3f n = some z) : Z3g n = some z := by
  unfold Z3f at h; split at h
  · rename_i hh; rw [text_eq hh, h]
  · cases h
theorem ZIi {n : Nat} (h : bl n ≤ 4398046511104) : (ZGb n).length ≤ 4398046511104 := by
  unfold ZGb; split
  · simp
  · have := ZJi n; omega
theorem Zlr {x : Rat} {z : List UInt8} (h : Z3d x = some z) : Zmj x = some z := by
  unfold Z3d at h; split at h
  · rename_i hh; obtain ⟨h1, h2⟩ := hh
    cases h
    unfold Zmj Z3f; have l1 := ZIi (n := x.num.natAbs) (by omega); have l2 := ZIi (n := x.den) (by omega); rw [if_pos (Zvb (by omega)), Zc]; have e1 : ifb (decide (x.num < 0)) (bnd (Zpc ([45] ++ ZGb x.num.natAbs)) fun y80 => some (([45] : List UInt8) ++ ZGb x.num.natAbs)) (some (ZGb x.num.natAbs)) = some ((if x.num < 0 then [45] else []) ++ ZGb x.num.natAbs) := by
      by_cases h : x.num < 0
      · rw [decide_eq_true h, ZJ, Zse (by simp; omega), Zc, if_pos h]
      · rw [decide_eq_false h, ZF, if_neg h]; rfl
    rw [e1, Zc]; unfold txtQ; have l3 : ((if x.num < 0 then [45] else []) ++ ZGb x.num.natAbs : List UInt8).length ≤ 4398046511105 := by
      rw [List.length_append]; split <;> simp <;> omega
    generalize ((if x.num < 0 then [45] else []) ++ ZGb x.num.natAbs : List UInt8) = s at *; by_cases hd : x.den = 1
    · rw [hd]; rw [show Zub 1 = 0 from rfl, Z8a]; simp [ifb, bnd]
    · have e2 : Zub x.den = x.den := by unfold Zub; rw [if_neg hd]
      have hpos := List.length_pos_iff.2 ((Zgd (n := x.den) (B := 18446744073709551616) (by decide)).2 x.den_nz); rw [e2, decide_eq_true (by omega), ZJ, if_pos (Zvb (by omega)), Zc, Zse (by simp; omega), Zc, Zse (by simp; omega), Zc, Zc, if_neg hd]; rfl
  · cases h
theorem num_pos {q : Rat} : 0 < q.num ↔ 0 < q := by
  have h1 := Rat.num_nonneg (q := q); have h2 := Rat.num_eq_zero (q := q); constructor
  · intro h; have h3 : 0 ≤ q := h1.1 (by omega); have h4 : q ≠ 0 := fun e => by have := h2.2 e; omega
    grind
  · intro h; have h3 : 0 ≤ q.num := h1.2 (by grind); have h4 : q.num ≠ 0 := fun e => by have := h2.1 e; grind
    omega
theorem num_neg {q : Rat} : q.num < 0 ↔ q < 0 := by
  have h1 := Rat.num_nonneg (q := q); constructor
  · intro h; rcases Rat.le_total (a := 0) (b := q) with h3 | h3
    · have := h1.2 h3; omega
    · have h4 : q ≠ 0 := fun e => by subst e; simp at h
      grind
  · intro h; rcases Int.lt_or_le q.num 0 with h3 | h3
    · exact h3
    · have := h1.1 h3; grind
theorem Zhl {q : Rat} : (0 < q.num.sign) ↔ 0 < q := by
  rw [← num_pos]; rcases Int.lt_trichotomy q.num 0 with h | h | h
  · rw [Int.sign_eq_neg_one_of_neg h]; omega
  · rw [h]; simp
  · rw [Int.sign_eq_one_of_pos h]; omega
theorem ZDf {q : Rat} : (q.num.sign < 0) ↔ q < 0 := by
  rw [← num_neg]; rcases Int.lt_trichotomy q.num 0 with h | h | h
  · rw [Int.sign_eq_neg_one_of_neg h]; omega
  · rw [h]; simp
  · rw [Int.sign_eq_one_of_pos h]; omega
theorem ZCp {q : Rat} : (q.num.sign ≤ 0) ↔ q ≤ 0 := by
  have h := Zhl (q := q); constructor
  · intro h1; rcases Rat.le_total (a := q) (b := 0) with h2 | h2
    · exact h2
    · by_cases h3 : q = 0
      · grind
      · have := h.2 (by grind); omega
  · intro h1; rcases Int.lt_or_le 0 q.num.sign with h2 | h2
    · have := h.1 h2; grind
    · exact h2
theorem Zgo {q : Rat} : (0 ≤ q.num.sign) ↔ 0 ≤ q := by
  have h := ZDf (q := q); constructor
  · intro h1; rcases Rat.le_total (a := 0) (b := q) with h2 | h2
    · exact h2
    · by_cases h3 : q = 0
      · grind
      · have := h.2 (by grind); omega
  · intro h1; rcases Int.lt_or_le q.num.sign 0 with h2 | h2
    · have := h.1 h2; grind
    · exact h2
def sz (k : Nat) (x : Rat) : Prop := bl x.num.natAbs ≤ k ∧ bl x.den ≤ k
theorem sz.mono {k m : Nat} {x : Rat} (h : sz k x) (hk : k ≤ m) : sz m x := ⟨by have := h.1; omega, by have := h.2; omega⟩
theorem sz.ok {k : Nat} {x : Rat} (h : sz k x) (hk : k ≤ 1099511627776) : okQ x := ⟨by have := h.1; omega, by have := h.2; omega⟩
theorem sz.sm {k : Nat} {x : Rat} (h : sz k x) (hk : k ≤ 68719476736) : smQ x := ⟨by have := h.1; omega, by have := h.2; omega⟩
theorem Zik {k m : Nat} {x y : Rat} (h : sz k x) (h' : sz m y) : sz (k + m + 1) (x + y) := by
  have := ZDl x y; obtain ⟨a, b⟩ := h; obtain ⟨c, d⟩ := h'; exact ⟨by omega, by omega⟩
theorem ZLc {k m : Nat} {x y : Rat} (h : sz k x) (h' : sz m y) : sz (k + m + 1) (x - y) := by
  have := Z6o x y; obtain ⟨a, b⟩ := h; obtain ⟨c, d⟩ := h'; exact ⟨by omega, by omega⟩
theorem ZFi {k m : Nat} {x y : Rat} (h : sz k x) (h' : sz m y) : sz (k + m) (x * y) := by
  have := Zbp x y; obtain ⟨a, b⟩ := h; obtain ⟨c, d⟩ := h'; exact ⟨by omega, by omega⟩
theorem Z6f {k m : Nat} {x y : Rat} (h : sz k x) (h' : sz m y) : sz (k + m + 1) (x / y) := by
  have := Z5o (x := x) (y := y); obtain ⟨a, b⟩ := h; obtain ⟨c, d⟩ := h'; exact ⟨by omega, by omega⟩
theorem Zsi {n : Int} (h : -9223372036854775808 ≤ n ∧ n ≤ 9223372036854775807) : sz 64 (n : Rat) := by
  have h2 := Z3l n; have h3 : bl n.natAbs ≤ 64 := ZJb (show n.natAbs < 2 ^ 64 by omega); exact ⟨by omega, by omega⟩
def i64 (r : Int × Int) : Prop := (-9223372036854775808 ≤ r.1 ∧ r.1 ≤ 9223372036854775807) ∧ (-9223372036854775808 ≤ r.2 ∧ r.2 ≤ 9223372036854775807)
theorem ZCn {r : Int × Int} (h : i64 r) : sz 64 (Zoe r) := by
  unfold Zoe; by_cases h0 : r.2 = 0
  · rw [if_pos h0]; exact Zsi h.1
  · rw [if_neg h0, Zgi]; obtain ⟨⟨a, b⟩, c, d⟩ := h; rcases ZMg (if r.2 < 0 then -r.1 else r.1) r.2.natAbs with ⟨h1, h2⟩ | h1
    · have h3 : bl (if r.2 < 0 then -r.1 else r.1).natAbs ≤ 64 := ZJb (show _ < 2 ^ 64 by split <;> omega); have h4 : bl r.2.natAbs ≤ 64 := ZJb (show _ < 2 ^ 64 by omega); exact ⟨by omega, by omega⟩
    · omega
theorem qadd_ok {k m : Nat} {x y : Rat} (h : sz k x) (h' : sz m y) (hk : k + m ≤ 1000000000) : Zwd x y = some (x + y) := by unfold Zwd; rw [if_pos ⟨h.ok (by omega), h'.ok (by omega)⟩]
theorem ZIh {k m : Nat} {x y : Rat} (h : sz k x) (h' : sz m y) (hk : k + m ≤ 1000000000) : Z8d x y = some (x - y) := by unfold Z8d; rw [if_pos ⟨h.ok (by omega), h'.ok (by omega)⟩]
theorem Z5k {k m : Nat} {x y : Rat} (h : sz k x) (h' : sz m y) (hk : k + m ≤ 1000000000) (hy : y ≠ 0) : Zpe x y = some (x / y, 0) := by unfold Zpe; rw [if_pos ⟨h.ok (by omega), h'.ok (by omega)⟩, if_neg hy]
theorem Zhf {k m : Nat} {x y : Rat} (h : sz k x) (h' : sz m y) (hk : k + m ≤ 1000000000) : Zed x y = some (x - y).num.sign := by unfold Zed; rw [if_pos ⟨h.ok (by omega), h'.ok (by omega)⟩]
def decG : Nat → Nat → List UInt8
  | 0, _ => []
  | k + 1, n => if n = 0 then [] else decG k (n / 10) ++ [UInt8.ofNat (48 + n % 10)]
theorem ZCk : ∀ (k n : Nat), n ≤ k → decG k n = ZKa n
  | 0, n, h => by
    have : n = 0 := by omega
    subst this; rw [Z8c]; rfl
  | k + 1, n, h => by
    by_cases h0 : n = 0
    · subst h0; rw [Z8c]; rfl
    · rw [Z3e h0, decG, if_neg h0, ZCk k (n / 10) (by omega)]
def txtG (x : Rat) : List UInt8 := (if x.num < 0 then [45] else []) ++ (if x.num.natAbs = 0 then [48] else decG x.num.natAbs x.num.natAbs) ++ (if x.den = 1 then [] else 47 :: (if x.den = 0 then [48] else decG x.den x.den))
theorem txtG_eq : txtG = txtQ := by
  funext x
  unfold txtG txtQ ZGb; rw [ZCk _ _ (Nat.le_refl _), ZCk _ _ (Nat.le_refl _)]
def ZIm (x : Rat) : Option (List UInt8) := if okQ x then some (txtG x) else none
theorem ZWp : Z3d = ZIm := by
  funext x
  unfold Z3d ZIm; rw [txtG_eq]
noncomputable def Z4f (fv : Nat) : Option (Nat) :=
 some ((Zhc .u64 ((fv : Int)) ((9223372036854775808 : Int))).toNat)
noncomputable def Zpg (x : Nat) : Option (Nat × Int) :=
 bnd (Z4f x) fun a =>
 ifb (fLt .f64 a ((4503599627370496 : Nat)))
 (bnd (fMul .f64 x ((4841369599423283200 : Nat))) fun b =>
 some ((b,(-52 : Int))))
 (some ((x,(0 : Int))))
noncomputable def ZWe (fv : Nat) (sign : Int) : Option (Bool) :=
 bnd (ifb (sign == ((0 : Int)))
 (bnd (Z4f fv) fun a =>
 some a)
 (bnd (ifb (decide (sign < (0 : Int)))
 (bnd (fNeg .f64 fv) fun b =>
 some b)
 (some fv))
 (fun (c : Nat) =>
 (some c))))
 (fun (d : Nat) =>
 (some (fGt .f64 d ((9218868437227405311 : Nat)))))
noncomputable def ZDd (fv : Nat) : Option (Bool) :=
 some (fNe .f64 fv fv)
noncomputable def ZAg (fv : Nat) : Option (Nat × Int) :=
 ifb (fEq .f64 fv ((0 : Nat)))
 (some ((fv,(0 : Int))))
 (bnd (bnd (ZWe fv ((0 : Int))) fun b =>
 ifb (b)
 (some true)
 (bnd (ZDd fv) fun c =>
 some c))
 (fun (d : Bool) =>
 (ifb (d)
 (some ((fv,(0 : Int))))
 (bnd (Zpg fv) fun a =>
 bnd (ZCa .u64 ((a.1 : Int)) ((52 : Int))) fun e =>
 bnd (chk .i64 ((IntKind.i64.wrap (ZDa .u64 e ((2047 : Int)))) - ((1023 : Int)))) fun f =>
 bnd (chk .i64 (f + ((1 : Int)))) fun g =>
 bnd (chk .i64 (a.2 + g)) fun h =>
 some (((orI .u64 (Zhc .u64 ((a.1 : Int)) ((9218868437227405312 : Int))) ((4602678819172646912 : Int))).toNat,h))))))
noncomputable def ZSj (fv : Nat) : Option (Nat × Int) :=
 bnd (ZAg fv) fun a =>
 some ((a.1,a.2))
noncomputable def Zvk (fv : Nat) (sign : Nat) : Option (Nat) :=
 some ((orI .u64 (Zhc .u64 ((fv : Int)) ((9223372036854775808 : Int))) (ZDa .u64 ((sign : Int)) ((9223372036854775808 : Int)))).toNat)
noncomputable def ZDj (sign : Int) : Option (Nat) :=
 bnd (ifb (decide ((0 : Int) ≤ sign))
 (some ((9218868437227405312 : Int)))
 (some ((18442240474082181120 : Int))))
 (fun (a : Int) =>
 (some a.toNat))
noncomputable def ZLg (frac : Nat) (ex : Int) : Option (Nat) :=
 ifb (fEq .f64 frac ((0 : Nat)))
 (some frac)
 (bnd (bnd (ZWe frac ((0 : Int))) fun c =>
 ifb (c)
 (some true)
 (bnd (ZDd frac) fun d =>
 some d))
 (fun (e : Bool) =>
 (ifb (e)
 (some frac)
 (bnd (Zpg frac) fun a =>
 bnd (chk .i64 (ex + a.2)) fun f =>
 bnd (ZCa .u64 ((a.1 : Int)) ((52 : Int))) fun g =>
 bnd (chk .i64 ((ZDa .i64 (IntKind.i64.wrap g) ((2047 : Int))) - ((1023 : Int)))) fun h =>
 bnd (chk .i64 (f + h)) fun b =>
 ifb (decide (b < (-1075 : Int)))
 (bnd (Zvk ((0 : Nat)) a.1) fun i =>
 some i)
 (ifb (decide ((1023 : Int) < b))
 (ifb (fLt .f64 a.1 ((0 : Nat)))
 (bnd (ZDj ((-1 : Int))) fun j =>
 some j)
 (bnd (ZDj ((1 : Int))) fun k =>
 some k))
 (bnd (ifb (decide (b < (-1022 : Int)))
 (bnd (chk .i64 (b + ((53 : Int)))) fun l =>
 some ((l,(4368491638549381120 : Nat))))
 (some ((b,(4607182418800017408 : Nat)))))
 (fun (p : Int × Nat)=>match p with
 | (m,n) =>
 (bnd (chk .i64 (m + ((1023 : Int)))) fun o =>
 bnd (ZLb .u64 (IntKind.u64.wrap o) ((52 : Int))) fun q =>
 bnd (fMul .f64 n ((orI .u64 (Zhc .u64 ((a.1 : Int)) ((9218868437227405312 : Int))) q).toNat)) fun r =>
 some r))))))))
noncomputable def ZMi (frac : Nat) (ex : Int) : Option (Nat) :=
 bnd (ZLg frac ex) fun a =>
 some a
noncomputable def Zcd (fv : Nat) : Option (Rat × Int) :=
 bnd (bnd (ZDd fv) fun d =>
 ifb (d)
 (some true)
 (bnd (ZWe fv ((0 : Int))) fun e =>
 some e))
 (fun (f : Bool) =>
 (ifb (f)
 (some (((0 : Rat),(1 : Int))))
 (bnd (ZSj fv) fun c =>
 bnd (ZMi c.1 ((53 : Int))) fun g =>
 bnd (Z7e .f64 .i64 g) fun h =>
 bnd (ofF h) fun a =>
 bnd (chk .i64 (c.2 - ((53 : Int)))) fun b =>
 ifb (decide ((0 : Int) ≤ b))
 (bnd (ZMc a.natAbs b) fun i =>
 bnd (ZUb (decide (a < 0)) i) fun j =>
 bnd (ZZd j ((0 : Nat))) fun k =>
 some ((k,(0 : Int))))
 (bnd (ZSc ((1 : Int))) fun l =>
 bnd (ZMc l (IntKind.i64.wrap (-b))) fun m =>
 bnd (Z3c a m) fun n =>
 some ((n,(0 : Int)))))))
section
variable {P : Program} {K : Nat} {w0 : Base} {v0 : Ze} {σ : List (Nat × Value)} {ℓ : List Loc} {v : Ze} {a : Act} {w : World} {ops : Array Oper} {Q : Exit → Act → World → Prop} {rest : List Oper}
def Zve (r : Nat) : Prop := r < 18446744073709551616 ∧ 9218868437227405312 < r % 9223372036854775808
theorem ZJo {s t : TypeId} {k0 : FloatKind} {b f : Nat} {g : Bool} (hs : P.underlying s = some (.float k0)) (ht : P.underlying t = some (.float .f64)) (h : FloatKind.f32.decode b = .nan g f) (w : World) :
    ∃ r, Zve r ∧ (convert s t (.float .f32 b)).run P w = .ok (.float .f64 r) w.drew := by
  refine ⟨(Question.nanConv .f64 b).cut (w.tape w.drawn (Question.nanConv .f64 b)), ?_, ?_⟩
  · generalize w.tape w.drawn (Question.nanConv .f64 b) = n; show Zve ((n % 2) * 2 ^ 63 + 0x7ff0000000000000 + 1 + (n / 2) % (2 ^ 52 - 1)); have e1 : (2 : Nat) ^ 63 = 9223372036854775808 := by decide
    have e2 : (2 : Nat) ^ 52 = 4503599627370496 := by decide
    rw [e1, e2]; unfold Zve; have h1 := Nat.mod_lt (n / 2) (show 0 < 4503599627370496 - 1 by decide); have h2 := Nat.mod_lt n (show 0 < 2 by decide); generalize n / 2 % (4503599627370496 - 1) = x at *; generalize n % 2 = y at *; rcases (show y = 0 ∨ y = 1 by omega) with rfl | rfl
    · refine ⟨by omega, by omega⟩
    · refine ⟨by omega, by omega⟩
  · simp [convert, run_underlying hs, run_underlying ht, Conv.floatToFloat, h, choose, Sem.run, Question.forced]
theorem ZIq {s t : TypeId} {k0 : FloatKind} {b : Nat} {g : Bool} (hs : P.underlying s = some (.float k0)) (ht : P.underlying t = some (.float .f64)) (h : FloatKind.f32.decode b = .infinity g) (w : World) :
    (convert s t (.float .f32 b)).run P w = .ok (.float .f64 (FloatKind.f64.encode (.infinity g))) w := by
  simp [convert, run_underlying hs, run_underlying ht, Conv.floatToFloat, h]
theorem Zql (hS : St K w0 v0 σ ℓ v a w) {s t ty : TypeId} {d : Option Nat} {pos : String} {aft : Array Edge} {g : Option (Nat × Bool)} {x : Operand} {y z : Value} {w' : World} (e : ev σ x = some y) (h : (convert s t y).run P w = .ok z w') :
    (execOp a.eval ⟨d, .convert s t x, ty, pos, aft, g⟩).run P w = .ok (.value z) w' := by
  simp [execOp, hS.eval e, h]
theorem ovd {o : Oper} {d : Nat} {x : Value} (hS : St K w0 v0 σ ℓ v a w) (hc : (o.dst, o.guard, Nat.ble (d + 1) K) = (some d, none, true)) (hrun : (execOp a.eval o).run P w = .ok (.value x) w.drew)
    (h : ∀ a, St K w0 v0 ((d, x) :: σ) ℓ v a w.drew → wpList P ops Q rest a w.drew) : wpList P ops Q (o :: rest) a w :=
  ZOd (Zxc (Prod.mk.inj (Prod.mk.inj hc).2).1) (ZQe hrun (by
    rw [(Prod.mk.inj hc).1]
    exact h _ (hS.drew.put x (Nat.le_of_ble_eq_true (Prod.mk.inj (Prod.mk.inj hc).2).2))))
end
abbrev canon64 : Nat := 9221120237041090560
def ZBd (b : Nat) : Option Nat := match FloatKind.f32.decode b with
  | .number _ _ _ => Zce .f32 .f64 b
  | _ => some canon64
def as64 (y r : Nat) : Prop := r = y ∨ (y = canon64 ∧ (Zve r ∨ ∃ g, r = FloatKind.f64.encode (.infinity g)))
section
variable {P : Program} {K : Nat} {w0 : Base} {v0 : Ze} {σ : List (Nat × Value)} {ℓ : List Loc} {v : Ze} {a : Act} {w : World} {ops : Array Oper} {Q : Exit → Act → World → Prop} {rest : List Oper}
theorem convN {s t : TypeId} {k0 : FloatKind} {b y : Nat} (hs : P.underlying s = some (.float k0)) (ht : P.underlying t = some (.float .f64)) (h : ZBd b = some y) (w : World) :
    ∃ r, as64 y r ∧ r < 18446744073709551616 ∧ ((convert s t (.float .f32 b)).run P w = .ok (.float .f64 r) w ∨ (convert s t (.float .f32 b)).run P w = .ok (.float .f64 r) w.drew) := by
  unfold ZBd at h
  cases hd : FloatKind.f32.decode b with
  | number sg m e =>
    rw [hd] at h; exact ⟨y, .inl rfl, Zpq h, .inl (conv_ff hs ht h w)⟩
  | infinity g =>
    rw [hd] at h; refine ⟨_, .inr ⟨(Option.some.inj h).symm, .inr ⟨g, rfl⟩⟩, ?_, .inl (ZIq hs ht hd w)⟩
    cases g <;> decide
  | nan g f =>
    rw [hd] at h; obtain ⟨r, h1, h2⟩ := ZJo hs ht hd w; exact ⟨r, .inr ⟨(Option.some.inj h).symm, .inl h1⟩, h1.1, .inr h2⟩
theorem ovn {s t ty : TypeId} {k0 : FloatKind} {d : Nat} {pos : String} {aft : Array Edge} {x : Operand} {b y : Nat} (hS : St K w0 v0 σ ℓ v a w) (hc : (ev σ x, Nat.ble (d + 1) K) = (some (.float .f32 b), true))
    (hs : P.underlying s = some (.float k0)) (ht : P.underlying t = some (.float .f64)) (hy : ZBd b = some y)
    (h : ∀ r, as64 y r → r < 18446744073709551616 → ∀ a w', St K w0 v0 ((d, .float .f64 r) :: σ) ℓ v a w' → wpList P ops Q rest a w') : wpList P ops Q (⟨some d, .convert s t x, ty, pos, aft, none⟩ :: rest) a w := by
  have e := (Prod.mk.inj hc).1; have k := (Prod.mk.inj hc).2; obtain ⟨r, h1, h2, hrun⟩ := convN hs ht hy w; rcases hrun with hr | hr
  · exact ov hS (by rw [k]) (Zql hS e hr) fun a hS => h r h1 h2 a _ hS
  · exact ovd hS (by rw [k]) (Zql hS e hr) fun a hS => h r h1 h2 a _ hS
theorem ZHk {b : Nat} {s : Bool} {m : Nat} {e : Int} (h : FloatKind.f32.decode b = .number s m e) : ZBd b = Zce .f32 .f64 b := by
  unfold ZBd; rw [h]
end
noncomputable def Zvd (fv : Nat) : Option (Rat × Int) :=
 bnd (ZBd fv) fun b =>
 bnd (Zcd b) fun a =>
 some ((a.1,a.2))
set_option maxRecDepth 1000000
theorem ZFm (p q : Int) : Zhc .u64 p q = (((p % 18446744073709551616).toNat &&& (18446744073709551615 - (q % 18446744073709551616).toNat) : Nat) : Int) := by
  unfold Zhc; have h1 : (BitVec.ofInt IntKind.u64.bits p &&& ~~~BitVec.ofInt IntKind.u64.bits q).toNat = ((p % 18446744073709551616).toNat &&& (18446744073709551615 - (q % 18446744073709551616).toNat)) := by
    rw [BitVec.toNat_and, BitVec.toNat_not, BitVec.toNat_ofInt, BitVec.toNat_ofInt]; rfl
  rw [h1]; have h2 : ((p % 18446744073709551616).toNat &&& (18446744073709551615 - (q % 18446744073709551616).toNat)) ≤ (p % 18446744073709551616).toNat := Nat.and_le_left; exact Z9b (Zuc.2 ⟨by omega, by omega⟩)
theorem or_fast (p q : Int) : orI .u64 p q = (((p % 18446744073709551616).toNat ||| (q % 18446744073709551616).toNat : Nat) : Int) := by
  unfold orI; have h1 : (BitVec.ofInt IntKind.u64.bits p ||| BitVec.ofInt IntKind.u64.bits q).toNat = ((p % 18446744073709551616).toNat ||| (q % 18446744073709551616).toNat) := by
    rw [BitVec.toNat_or, BitVec.toNat_ofInt, BitVec.toNat_ofInt]; rfl
  have h2 := (BitVec.ofInt IntKind.u64.bits p ||| BitVec.ofInt IntKind.u64.bits q).isLt; rw [h1] at h2 ⊢; have h3 : (2 : Nat) ^ IntKind.u64.bits = 18446744073709551616 := rfl; exact Z9b (Zuc.2 ⟨by omega, by omega⟩)
theorem ZYa {α β : Type} {x : Option α} {y : α} {f : α → Option β} {z : Option β} (h : x = some y) (h2 : f y = z) : bnd x f = z := by subst h; rw [Zc]; exact h2
theorem Zad {S R : Type} {body : S → Option (S ⊕ R)} {s : S} {r : R} (st : Nat → S) (n : Nat) (h0 : st 0 = s) (hn : n < 2 ^ 64) (h : ∀ k, k < n → body (st k) = some (.inl (st (k + 1)))) (he : body (st n) = some (.inr r)) : Zea body Zta s = some r := by
  have key : ∀ m f k, k + m = n → m < f → Zea body f (st k) = some r := by
    intro m
    induction m with
    | zero =>
      intro f k hk hf; obtain ⟨f, rfl⟩ : ∃ g, f = g + 1 := ⟨f - 1, by omega⟩; obtain rfl : k = n := by omega
      unfold Zea; rw [he, Zc]
    | succ m ih =>
      intro f k hk hf; obtain ⟨f, rfl⟩ : ∃ g, f = g + 1 := ⟨f - 1, by omega⟩; unfold Zea; rw [h k (by omega), Zc]; exact ih f (k + 1) (by omega) (by omega)
  rw [← h0]; exact key n Zta 0 (by omega) (ZTa (by omega))
def ent (t : List (List Int)) (i k : Nat) : Int := (t.getD i []).getD k 0
def upd (l : List Int) (i : Nat) (x : Int) : List Int := l.set i (l.getD i 0 + x)
theorem Z5c {α : Type} {l : List α} {i : Nat} {d : α} (h : i < l.length) : l.getD i d = l[i] := by rw [List.getD_eq_getElem?_getD, List.getElem?_eq_getElem h]; rfl
def rcF (t : List (List Int)) (i k : Nat) (p : List Int × List Int) : List Int × List Int := (upd p.1 i (ent t i k), upd p.2 k (ent t i k))
def RC (n : Nat) (B : Int) (p : List Int × List Int) : Prop := p.1.length = n ∧ p.2.length = n ∧ (∀ x ∈ p.1, 0 ≤ x ∧ x ≤ B) ∧ (∀ x ∈ p.2, 0 ≤ x ∧ x ≤ B)
theorem RC.at1 {n : Nat} {B : Int} {p : List Int × List Int} (h : RC n B p) {i : Nat} (hi : i < n) : ∃ hh : i < p.1.length, 0 ≤ p.1[i] ∧ p.1[i] ≤ B ∧ p.1.getD i 0 = p.1[i] := by
  have h1 : i < p.1.length := by rw [h.1]; exact hi
  exact ⟨h1, (h.2.2.1 _ (List.getElem_mem h1)).1, (h.2.2.1 _ (List.getElem_mem h1)).2, Z5c h1⟩
theorem RC.at2 {n : Nat} {B : Int} {p : List Int × List Int} (h : RC n B p) {i : Nat} (hi : i < n) : ∃ hh : i < p.2.length, 0 ≤ p.2[i] ∧ p.2[i] ≤ B ∧ p.2.getD i 0 = p.2[i] := by
  have h1 : i < p.2.length := by rw [h.2.1]; exact hi
  exact ⟨h1, (h.2.2.2 _ (List.getElem_mem h1)).1, (h.2.2.2 _ (List.getElem_mem h1)).2, Z5c h1⟩
theorem ZZm {l : List Int} {i : Nat} {x B : Int} (hx : 0 ≤ x ∧ x ≤ 1000000) (hi : i < l.length) (h : ∀ y ∈ l, 0 ≤ y ∧ y ≤ B) : ∀ y ∈ upd l i x, 0 ≤ y ∧ y ≤ B + 1000000 := by
  intro y hy; unfold upd at hy; have h2 := h _ (List.getElem_mem hi); rcases List.mem_or_eq_of_mem_set hy with h1 | h1
  · have := h y h1; omega
  · rw [Z5c hi] at h1; omega
structure Good (t : List (List Int)) : Prop where
  n0 : 0 < t.length
  n8 : t.length ≤ 8
  sq : ∀ i, (h : i < t.length) → t[i].length = t.length
  ok : ∀ i k, i < t.length → k < t.length → 0 ≤ ent t i k ∧ ent t i k ≤ 1000000
theorem RC.step {t : List (List Int)} (g : Good t) {B : Int} {p : List Int × List Int} {i k : Nat} (hi : i < t.length) (hk : k < t.length) (h : RC t.length B p) : RC t.length (B + 1000000) (rcF t i k p) :=
  ⟨by simp [rcF, upd, h.1], by simp [rcF, upd, h.2.1], ZZm (g.ok i k hi hk) (by rw [h.1]; exact hi) h.2.2.1, ZZm (g.ok i k hi hk) (by rw [h.2.1]; exact hk) h.2.2.2⟩
theorem RC.mono {n : Nat} {B C : Int} {p : List Int × List Int} (h : RC n B p) (hB : B ≤ C) : RC n C p :=
  ⟨h.1, h.2.1, fun x hx => by have := h.2.2.1 x hx; omega, fun x hx => by have := h.2.2.2 x hx; omega⟩
def pqF (t : List (List Int)) (w : Nat → Nat → Rat) (p : List Int × List Int) (i k : Nat) (s : Rat × Rat) : Rat × Rat :=
  (s.1 + w i k * ((ent t i k : Int) : Rat), s.2 + w i k * ((p.1.getD i 0 : Int) : Rat) * ((p.2.getD k 0 : Int) : Rat))
def SZ (k : Nat) (s : Rat × Rat) : Prop := sz k s.1 ∧ sz k s.2
theorem SZ.mono {k m : Nat} {s : Rat × Rat} (h : SZ k s) (hk : k ≤ m) : SZ m s := ⟨h.1.mono hk, h.2.mono hk⟩
theorem ZLh : sz 1 (0 : Rat) := by constructor <;> decide
section
variable {t : List (List Int)} {w : Nat → Nat → Rat} {p : List Int × List Int}
theorem SZ.step (g : Good t) (hw : ∀ i k, i < t.length → k < t.length → sz 200 (w i k)) (hp : RC t.length 64000000 p) {i k c : Nat} {s : Rat × Rat} (hi : i < t.length) (hk : k < t.length) (h : SZ c s) : SZ (c + 400) (pqF t w p i k s) := by
  have e := g.ok i k hi hk; obtain ⟨_, a1, a2, a3⟩ := hp.at1 hi; obtain ⟨_, b1, b2, b3⟩ := hp.at2 hk; refine ⟨(Zik h.1 (ZFi (hw i k hi hk) (Zsi (n := ent t i k) (by omega)))).mono (by omega), (Zik h.2 (ZFi (ZFi (hw i k hi hk) (Zsi (n := p.1.getD i 0) (by omega))) (Zsi (n := p.2.getD k 0) (by omega)))).mono (by omega)⟩
end
set_option maxRecDepth 100000
noncomputable def Z1h (x : Rat) : Option (Rat) :=
 bnd (Zrc x) fun a =>
 bnd (ZAb (!(decide (x.num < 0))) x.num.natAbs a) fun b =>
 some b
noncomputable def ZWg (x : Rat) (y : Rat) : Option (Rat) :=
 bnd (Zrc x) fun a =>
 bnd (Zrc y) fun b =>
 bnd (Zhb x.num.natAbs b) fun c =>
 bnd (Zhb y.num.natAbs a) fun d =>
 ifb ((decide (x.num < 0)) == (decide (y.num < 0)))
 (bnd (Zig c d) fun e =>
 bnd (Zhb a b) fun f =>
 bnd (ZAb (decide (x.num < 0)) e f) fun g =>
 some g)
 (bnd (Zyd c d) fun h =>
 ifb (decide ((0 : Int) ≤ h))
 (bnd (ZGc c d) fun i =>
 bnd (Zhb a b) fun j =>
 bnd (ZAb (decide (x.num < 0)) i j) fun k =>
 some k)
 (bnd (ZGc d c) fun l =>
 bnd (Zhb a b) fun m =>
 bnd (ZAb (decide (y.num < 0)) l m) fun n =>
 some n))
noncomputable def Zai (x : Rat) (y : Rat) : Option (Rat) :=
 bnd (ZRh y) fun a =>
 bnd (Z7d x a) fun b =>
 some b
noncomputable def Zyj (x : Rat) (y : Rat) : Option (Rat) :=
 bnd (Zhb x.num.natAbs y.num.natAbs) fun a =>
 bnd (Zrc x) fun b =>
 bnd (Zrc y) fun c =>
 bnd (Zhb b c) fun d =>
 bnd (ZAb ((decide (x.num < 0)) != (decide (y.num < 0))) a d) fun e =>
 some e
noncomputable def Zdi (x : Rat) (y : Rat) : Option (Rat × Int) :=
 bnd (ZXd y) fun a =>
 ifb (a)
 (bnd (Zfc ((0 : Int))) fun b =>
 some ((b,(3 : Int))))
 (bnd (Zrc y) fun c =>
 bnd (Zhb x.num.natAbs c) fun d =>
 bnd (Zrc x) fun e =>
 bnd (Zhb e y.num.natAbs) fun f =>
 bnd (ZAb ((decide (x.num < 0)) != (decide (y.num < 0))) d f) fun g =>
 some ((g,(0 : Int))))
noncomputable def ZCj (x : Rat) (y : Rat) : Option (Rat) :=
 bnd (ZTh x y) fun a =>
 some a.1
noncomputable def Z7i (x : Rat) (y : Rat) : Option (Int) :=
 bnd (Zcc x y) fun a =>
 bnd (Z8e a) fun b =>
 some b
noncomputable def Zei (x : Rat) : Option ((List UInt8)) :=
 bnd (Zcg x.num.natAbs) fun b =>
 bnd (ifb (decide (x.num < 0))
 (bnd (ZXd x) fun d =>
 some (!(d)))
 (some false))
 (fun (e : Bool) =>
 (bnd (ifb (e)
 (bnd (Zpc ((([45] : List UInt8)) ++ b)) fun j =>
 some (((([45] : List UInt8)) ++ b)))
 (some b))
 (fun (a : (List UInt8)) =>
 (bnd (Zrc x) fun f =>
 bnd (Zqc ([(1 : Int)])) fun g =>
 bnd (Zyd f g) fun h =>
 bnd (ifb (decide ((0 : Int) < h))
 (bnd (Zpc (a ++ (([47] : List UInt8)))) fun k =>
 bnd (Zcg x.den) fun c =>
 bnd (Zpc (((a ++ (([47] : List UInt8)))) ++ c)) fun l =>
 some ((((a ++ (([47] : List UInt8)))) ++ c)))
 (some a))
 (fun (i : (List UInt8)) =>
 (some i))))))
theorem ZIc {n : Nat} (h : bl n ≤ 1099511627776) : Zgb n := ZPl (by omega)
theorem ZWb {n : Nat} (h : bl n ≤ 1099511627776) : ZRa n := by have := ZIc h; unfold Zgb at this; unfold ZRa; omega
theorem rneg_eq {x : Rat} (h : okQ x) : Z1h x = some (-x) := by
  obtain ⟨h1, h2⟩ := h; unfold Z1h Zrc ZAb; rw [Zc, if_pos ⟨ZIc h1, ZIc h2, x.den_nz⟩, Zc]; congr 1; have e : sgn (!(decide (x.num < 0))) x.num.natAbs = -x.num := by
    unfold sgn; by_cases h : x.num < 0
    · simp [h]; omega
    · simp [h]; omega
  rw [e]; exact Rat.mkRat_self (-x)
theorem Zrq {x z : Rat} (h : ZRh x = some z) : Z1h x = some z := by
  unfold ZRh at h; split at h
  · rename_i hh; rw [rneg_eq hh, h]
  · cases h
theorem radd_eq {x y : Rat} (h : smQ x) (h' : smQ y) : ZWg x y = some (x + y) := by
  obtain ⟨a1, a2⟩ := h; obtain ⟨b1, b2⟩ := h'; unfold ZWg Zrc; have p1 := ZMb x.num.natAbs y.den; have p2 := ZMb y.num.natAbs x.den; have p3 := ZMb x.den y.den; have p4 := ZVj (x.num.natAbs * y.den) (y.num.natAbs * x.den); have hd : x.den * y.den ≠ 0 := Nat.mul_ne_zero x.den_nz y.den_nz; have e1 : Zhb x.num.natAbs y.den = some (x.num.natAbs * y.den) := by unfold Zhb; rw [if_pos ⟨ZWb (by omega), ZWb (by omega)⟩]
  have e2 : Zhb y.num.natAbs x.den = some (y.num.natAbs * x.den) := by unfold Zhb; rw [if_pos ⟨ZWb (by omega), ZWb (by omega)⟩]
  have e3 : Zhb x.den y.den = some (x.den * y.den) := by unfold Zhb; rw [if_pos ⟨ZWb (by omega), ZWb (by omega)⟩]
  have eN : ((x.num.natAbs * y.den : Nat) : Int) = (x.num.natAbs : Int) * y.den := by simp
  have eM : ((y.num.natAbs * x.den : Nat) : Int) = (y.num.natAbs : Int) * x.den := by simp
  have key : ∀ (s : Bool) (n : Nat), bl n ≤ 1099511627776 → sgn s n = x.num * y.den + y.num * x.den → ZAb s n (x.den * y.den) = some (x + y) := by
    intro s n hn he; unfold ZAb; rw [if_pos ⟨ZIc hn, ZIc (by omega), hd⟩, he, ← Rat.add_def']
  rw [Zc, Zc, e1, Zc, e2, Zc, e3]; obtain ⟨N, hN⟩ : ∃ N, N = x.num.natAbs * y.den := ⟨_, rfl⟩; obtain ⟨M, hM⟩ : ∃ M, M = y.num.natAbs * x.den := ⟨_, rfl⟩; rw [← hN] at p1 p4 eN ⊢; rw [← hM] at p2 p4 eM ⊢; have sx : x.num * (y.den : Int) = if x.num < 0 then -(N : Int) else N := by
    split
    · rw [eN, ← Int.neg_mul]; congr 1; omega
    · rw [eN]; congr 1; omega
  have sy : y.num * (x.den : Int) = if y.num < 0 then -(M : Int) else M := by
    split
    · rw [eM, ← Int.neg_mul]; congr 1; omega
    · rw [eM]; congr 1; omega
  by_cases hs : (x.num < 0) ↔ (y.num < 0)
  · have e4 : Zig N M = some (N + M) := by unfold Zig; rw [if_pos ⟨ZWb (by omega), ZWb (by omega)⟩]
    have e5 : ((decide (x.num < 0)) == (decide (y.num < 0))) = true := by
      by_cases h : x.num < 0
      · simp [h, hs.1 h]
      · have h2 : ¬ y.num < 0 := fun k => h (hs.2 k); simp [h, h2]
    rw [e5, ZJ, e4, Zc, Zc, key _ _ (by omega) ?_, Zc]; rw [sx, sy]; unfold sgn; by_cases h : x.num < 0
    · have h2 := hs.1 h; simp [h, h2]; omega
    · have h2 : ¬ y.num < 0 := fun k => h (hs.2 k); simp [h, h2]
  · have e5 : ((decide (x.num < 0)) == (decide (y.num < 0))) = false := by
      apply beq_false_of_ne; intro h; exact hs (by by_cases k : x.num < 0 <;> by_cases k2 : y.num < 0 <;> simp_all)
    rw [e5, ZF]; unfold Zyd; rw [Zc]; by_cases hle : M ≤ N
    · have e6 : decide ((0 : Int) ≤ Zjb N M) = true := by
        unfold Zjb; rw [if_neg (by omega)]; split <;> rfl
      have e4 : ZGc N M = some (N - M) := by unfold ZGc; rw [if_pos ⟨ZWb (by omega), hle⟩]
      have hb : bl (N - M) ≤ bl N := Zke (by omega); rw [e6, ZJ, e4, Zc, Zc, key _ _ (by omega) ?_, Zc]; rw [sx, sy]; unfold sgn; by_cases h : x.num < 0
      · have h2 : ¬ y.num < 0 := fun k => hs ⟨fun _ => k, fun _ => h⟩; simp [h, h2]; omega
      · have h2 : y.num < 0 := by
          rcases Int.lt_or_le y.num 0 with k | k
          · exact k
          · exact absurd ⟨fun q => absurd q h, fun q => absurd q (by omega)⟩ hs
        simp [h, h2]; omega
    · have e6 : decide ((0 : Int) ≤ Zjb N M) = false := by
        unfold Zjb; rw [if_pos (by omega)]; rfl
      have e4 : ZGc M N = some (M - N) := by unfold ZGc; rw [if_pos ⟨ZWb (by omega), by omega⟩]
      have hb : bl (M - N) ≤ bl M := Zke (by omega); rw [e6, ZF, e4, Zc, Zc, key _ _ (by omega) ?_, Zc]; rw [sx, sy]; unfold sgn; by_cases h : x.num < 0
      · have h2 : ¬ y.num < 0 := fun k => hs ⟨fun _ => k, fun _ => h⟩; simp [h, h2]; omega
      · have h2 : y.num < 0 := by
          rcases Int.lt_or_le y.num 0 with k | k
          · exact k
          · exact absurd ⟨fun q => absurd q h, fun q => absurd q (by omega)⟩ hs
        simp [h, h2]; omega
theorem Zkr {x y z : Rat} (h : Z7d x y = some z) : ZWg x y = some z := by
  unfold Z7d at h; split at h
  · rename_i hh; rw [radd_eq hh.1 hh.2, h]
  · cases h
theorem smQ_neg {x : Rat} (h : smQ x) : smQ (-x) := by
  unfold smQ at *; have := Zgk x; rw [this.1, this.2]; exact h
theorem smQ_ok {x : Rat} (h : smQ x) : okQ x := by unfold smQ at h; unfold okQ; omega
theorem ZIp {x y z : Rat} (h : Zcc x y = some z) : Zai x y = some z := by
  unfold Zcc at h; split at h
  · rename_i hh; unfold Zai ZRh Z7d; rw [if_pos (smQ_ok hh.2), Zc, if_pos ⟨hh.1, smQ_neg hh.2⟩, Zc, ← Rat.sub_eq_add_neg]; exact h
  · cases h
theorem Zhq {x y z : Rat} (h : ZKe x y = some z) : Zyj x y = some z := by
  unfold ZKe at h; split at h
  · rename_i hh; obtain ⟨⟨a1, a2⟩, b1, b2⟩ := hh
    cases h
    unfold Zyj Zrc; have p1 := ZMb x.num.natAbs y.num.natAbs; have p3 := ZMb x.den y.den; have e1 : Zhb x.num.natAbs y.num.natAbs = some (x.num.natAbs * y.num.natAbs) := by unfold Zhb; rw [if_pos ⟨ZWb (by omega), ZWb (by omega)⟩]
    have e3 : Zhb x.den y.den = some (x.den * y.den) := by unfold Zhb; rw [if_pos ⟨ZWb (by omega), ZWb (by omega)⟩]
    rw [e1, Zc, Zc, Zc, e3, Zc]; unfold ZAb; rw [if_pos ⟨ZIc (by omega), ZIc (by omega), Nat.mul_ne_zero x.den_nz y.den_nz⟩, Zc]; have e : sgn ((decide (x.num < 0)) != (decide (y.num < 0))) (x.num.natAbs * y.num.natAbs) = x.num * y.num := by
      have eN : ((x.num.natAbs * y.num.natAbs : Nat) : Int) = (x.num.natAbs : Int) * y.num.natAbs := by simp
      unfold sgn; rw [eN]; by_cases h : x.num < 0
      · have hx : (x.num.natAbs : Int) = -x.num := by omega
        by_cases h2 : y.num < 0
        · have hy : (y.num.natAbs : Int) = -y.num := by omega
          simp [h, h2, hx, hy, Int.neg_mul, Int.mul_neg]
        · have hy : (y.num.natAbs : Int) = y.num := by omega
          simp [h, h2, hx, hy, Int.neg_mul, Int.mul_neg]
      · have hx : (x.num.natAbs : Int) = x.num := by omega
        by_cases h2 : y.num < 0
        · have hy : (y.num.natAbs : Int) = -y.num := by omega
          simp [h, h2, hx, hy, Int.neg_mul, Int.mul_neg]
        · have hy : (y.num.natAbs : Int) = y.num := by omega
          simp [h, h2, hx, hy, Int.neg_mul, Int.mul_neg]
    rw [e, ← Rat.mul_def']
  · cases h
theorem Zfq {x y : Rat} {z : Rat × Int} (h : ZTh x y = some z) : Zdi x y = some z := by
  unfold ZTh at h; split at h
  · rename_i hh; obtain ⟨⟨a1, a2⟩, b1, b2⟩ := hh
    cases h
    unfold Zdi ZXd; rw [Zc]; by_cases h0 : y = 0
    · subst h0; rfl
    · rw [decide_eq_false h0, ZF, if_neg h0]; unfold Zrc; have hn := Z6i h0; have p1 := ZMb x.num.natAbs y.den; have p3 := ZMb x.den y.num.natAbs; have e1 : Zhb x.num.natAbs y.den = some (x.num.natAbs * y.den) := by unfold Zhb; rw [if_pos ⟨ZWb (by omega), ZWb (by omega)⟩]
      have e3 : Zhb x.den y.num.natAbs = some (x.den * y.num.natAbs) := by unfold Zhb; rw [if_pos ⟨ZWb (by omega), ZWb (by omega)⟩]
      rw [Zc, e1, Zc, Zc, e3, Zc]; unfold ZAb; rw [if_pos ⟨ZIc (by omega), ZIc (by omega), Nat.mul_ne_zero x.den_nz (by omega)⟩, Zc]; have e : sgn ((decide (x.num < 0)) != (decide (y.num < 0))) (x.num.natAbs * y.den) = if y.num < 0 then -(x.num * (y.den : Int)) else x.num * (y.den : Int) := by
        have eN : ((x.num.natAbs * y.den : Nat) : Int) = (x.num.natAbs : Int) * y.den := by simp
        unfold sgn; rw [eN]; by_cases h : x.num < 0
        · have hx : (x.num.natAbs : Int) = -x.num := by omega
          by_cases h2 : y.num < 0 <;> simp [h, h2, hx, Int.neg_mul]
        · have hx : (x.num.natAbs : Int) = x.num := by omega
          by_cases h2 : y.num < 0 <;> simp [h, h2, hx, Int.neg_mul]
      rw [e, ← ZJk h0]
  · cases h
theorem rbyF_eq {x y z : Rat} (h : ZFe x y = some z) : ZCj x y = some z := by
  unfold ZFe at h; split at h
  · rename_i hh
    cases h
    unfold ZCj ZTh; rw [if_pos hh, Zc]; split <;> rfl
  · cases h
theorem ZDq {x y : Rat} {z : Int} (h : Zzd x y = some z) : Z7i x y = some z := by
  unfold Zzd at h; split at h
  · rename_i hh
    cases h
    unfold Z7i Zcc Z8e; rw [if_pos hh, Zc, Zc]
  · cases h
theorem ZGq {x : Rat} {z : List UInt8} (h : Zeh x = some z) : Zei x = some z := by
  unfold Zeh at h; split at h
  · rename_i hh; obtain ⟨h1, h2⟩ := hh
    cases h
    unfold Zei Zcg; have l1 := ZIi (n := x.num.natAbs) (by omega); have l2 := ZIi (n := x.den) (by omega); rw [if_pos (ZIc h1), Zc]; have e0 : ifb (decide (x.num < 0)) (bnd (ZXd x) fun y136 => some (!(y136))) (some false) = some (decide (x.num < 0)) := by
      unfold ZXd; by_cases h : x.num < 0
      · have : x ≠ 0 := fun e => by subst e; simp at h
        rw [decide_eq_true h, ZJ, Zc, decide_eq_false this]; rfl
      · rw [decide_eq_false h, ZF]
    rw [e0, Zc]; have e1 : ifb (decide (x.num < 0)) (bnd (Zpc ([45] ++ ZGb x.num.natAbs)) fun y80 => some (([45] : List UInt8) ++ ZGb x.num.natAbs)) (some (ZGb x.num.natAbs)) = some ((if x.num < 0 then [45] else []) ++ ZGb x.num.natAbs) := by
      by_cases h : x.num < 0
      · rw [decide_eq_true h, ZJ, Zse (by simp; omega), Zc, if_pos h]
      · rw [decide_eq_false h, ZF, if_neg h]; rfl
    rw [e1, Zc]; unfold txtQ Zrc Zyd; have l3 : ((if x.num < 0 then [45] else []) ++ ZGb x.num.natAbs : List UInt8).length ≤ 4398046511105 := by
      rw [List.length_append]; split <;> simp <;> omega
    generalize ((if x.num < 0 then [45] else []) ++ ZGb x.num.natAbs : List UInt8) = s at *; rw [Zc, ZSg, Zc, Zc, Zel]; by_cases hd : x.den = 1
    · rw [hd]; simp [ifb, bnd]
    · have := x.den_nz; rw [decide_eq_true (by omega), ZJ, Zse (by simp; omega), Zc, if_pos (ZIc h2), Zc, Zse (by simp; omega), Zc, Zc, if_neg hd]; simp
  · cases h
noncomputable def ZLd (x : Rat) (y : Rat) : Option (Bool) :=
 bnd (Z3d x) fun a =>
 bnd (Zeh y) fun b =>
 some (a == b)
set_option maxRecDepth 100000
theorem radd_ok {k m : Nat} {x y : Rat} (h : sz k x) (h' : sz m y) (hk : k + m ≤ 1000000000) : Z7d x y = some (x + y) := by unfold Z7d; rw [if_pos ⟨h.sm (by omega), h'.sm (by omega)⟩]
theorem ZAh {k m : Nat} {x y : Rat} (h : sz k x) (h' : sz m y) (hk : k + m ≤ 1000000000) : Zcc x y = some (x - y) := by unfold Zcc; rw [if_pos ⟨h.sm (by omega), h'.sm (by omega)⟩]
theorem rmul_ok {k m : Nat} {x y : Rat} (h : sz k x) (h' : sz m y) (hk : k + m ≤ 1000000000) : ZKe x y = some (x * y) := by unfold ZKe; rw [if_pos ⟨h.sm (by omega), h'.sm (by omega)⟩]
theorem Zcn {k m : Nat} {x y : Rat} (h : sz k x) (h' : sz m y) (hk : k + m ≤ 1000000000) (hy : y ≠ 0) : ZFe x y = some (x / y) := by unfold ZFe; rw [if_pos ⟨h.sm (by omega), h'.sm (by omega)⟩, if_neg hy]
theorem ZEf {k m : Nat} {x y : Rat} (h : sz k x) (h' : sz m y) (hk : k + m ≤ 1000000000) : Zzd x y = some (x - y).num.sign := by unfold Zzd; rw [if_pos ⟨h.sm (by omega), h'.sm (by omega)⟩]
theorem Z9f {k : Nat} {x : Rat} (h : sz k x) (hk : k ≤ 1000000000) : ZLd x x = some true := by
  unfold ZLd Z3d Zeh; rw [if_pos (h.ok (by omega)), Zc, Zc]; simp
set_option maxRecDepth 100000
def dW (s : Bool) (E M : Nat) : Nat := (if s then 9223372036854775808 else 0) + E * 4503599627370496 + M
theorem d_sw : FloatKind.f64.format.signWeight = 9223372036854775808 := by decide
theorem d_bi : FloatKind.f64.format.binade = 4503599627370496 := by decide
theorem d_in : FloatKind.f64.format.infRung = 9218868437227405312 := by decide
theorem d_lp : FloatKind.f64.format.leastPlace = -1074 := by decide
theorem d_fb : FloatKind.f64.format.fractionBits = 52 := rfl
theorem ZVd {s : Bool} {E M : Nat} (h1 : 1 ≤ E) (h2 : E ≤ 2046) (h3 : M < 4503599627370496) : FloatKind.f64.format.read (dW s E M) = .number s (4503599627370496 + M) ((E : Int) - 1075) := by
  unfold Ieee.Format.read; simp only [d_sw, d_bi, d_in, d_lp]; have hr : dW s E M % 9223372036854775808 = E * 4503599627370496 + M := by unfold dW; cases s <;> simp <;> omega
  have hs : (dW s E M / 9223372036854775808 % 2 == 1) = s := by
    unfold dW
    cases s
    · simp; omega
    · simp; omega
  rw [hr, hs, if_neg (by omega), if_pos (by omega), show (E * 4503599627370496 + M) % 4503599627370496 = M by omega, show (E * 4503599627370496 + M) / 4503599627370496 = E by omega, show (-1074 + ((E - 1 : Nat) : Int)) = (E : Int) - 1075 by omega]
theorem cut0 (s : Bool) (n : Nat) : Ieee.Toward.even.cut s n 0 = n := by
  unfold Ieee.Toward.cut; simp [Nat.mod_one]
theorem d_wr {s : Bool} {m L : Nat} {e : Int} (h0 : m ≠ 0) (hL : m.log2 = L) (h52 : L ≤ 52) (h1 : -1022 ≤ e + L) (h2 : e + L ≤ 1023) : FloatKind.f64.format.write (.number s m e) = dW s (e + L + 1023).toNat (m * 2 ^ (52 - L) - 4503599627370496) := by
  have hb := (Nat.log2_eq_iff h0).1 hL; have hp : 2 ^ L * 2 ^ (52 - L) = 4503599627370496 := by rw [← Nat.pow_add, show L + (52 - L) = 52 by omega]
  have q1 : 4503599627370496 ≤ m * 2 ^ (52 - L) := by rw [← hp]; exact Nat.mul_le_mul_right _ hb.1
  have q2 : m * 2 ^ (52 - L) < 9007199254740992 := by
    have : m * 2 ^ (52 - L) < 2 ^ (L + 1) * 2 ^ (52 - L) := Nat.mul_lt_mul_of_pos_right hb.2 (Nat.two_pow_pos _); rw [Nat.pow_succ, Nat.mul_comm (2 ^ L) 2, Nat.mul_assoc, hp] at this; omega
  show Ieee.Format.nearest _ _ _ _ = _; unfold Ieee.Format.nearest; simp only [d_bi, d_in, d_lp, d_fb]; rw [if_neg h0, hL]; have hm : max (e + (L : Int) - ((52 : Nat) : Int)) (-1074) = e + L - 52 := by omega
  rw [hm, show (e - (e + (L : Int) - 52)).toNat = 52 - L by omega, show (e + (L : Int) - 52 - e).toNat = 0 by omega, cut0, Nat.shiftLeft_eq]; generalize m * 2 ^ (52 - L) = n at *; have hk : (e + (L : Int) - 52 - -1074).toNat = (e + L + 1023).toNat - 1 := by omega
  rw [hk]; have hE : 1 ≤ (e + (L : Int) + 1023).toNat ∧ (e + (L : Int) + 1023).toNat ≤ 2046 := by omega
  generalize (e + (L : Int) + 1023).toNat = E at *; rw [Nat.min_eq_left (by omega)]; unfold Ieee.Format.word dW; rw [d_sw]
  cases s <;> simp <;> omega
theorem d_wr1 {s : Bool} {M : Nat} (h : M < 4503599627370496) : FloatKind.f64.format.write (.number s (4503599627370496 * (4503599627370496 + M)) (-52)) = dW s 1075 M := by
  have hl : (4503599627370496 * (4503599627370496 + M)).log2 = 104 := (Nat.log2_eq_iff (by omega)).2 ⟨by omega, by omega⟩; show Ieee.Format.nearest _ _ _ _ = _; unfold Ieee.Format.nearest; simp only [d_bi, d_in, d_lp, d_fb]; rw [if_neg (by omega), hl]; have hm : max ((-52 : Int) + ((104 : Nat) : Int) - ((52 : Nat) : Int)) (-1074) = 0 := by decide
  rw [hm, show (-52 - (0 : Int)).toNat = 0 by decide, show ((0 : Int) - -52).toNat = 52 by decide, show ((0 : Int) - -1074).toNat = 1074 by decide, Nat.shiftLeft_zero]; unfold Ieee.Toward.cut; rw [hl, show min 52 (104 + 2) = 52 by decide, show (1 : Nat) <<< 52 = 4503599627370496 by decide]; simp only []; rw [Nat.mul_div_cancel_left _ (by omega), Nat.mul_mod_right]; simp only [Nat.mul_zero, Nat.not_lt_zero, decide_false, Bool.false_or, Nat.reduceBEq, Bool.false_and, Bool.toNat_false, Nat.add_zero]; rw [Nat.min_eq_left (by omega)]; unfold Ieee.Format.word dW; rw [d_sw]
  cases s <;> simp <;> omega
section
variable {s : Bool} {E M : Nat}
theorem ZNe (h2 : E ≤ 2047) (h3 : M < 4503599627370496) : dW s E M < 18446744073709551616 := by unfold dW; cases s <;> simp <;> omega
theorem Z9g (x : Nat) (k : Nat) : x &&& (2 ^ k - 1) = x % 2 ^ k := Nat.and_two_pow_sub_one_eq_mod x k
theorem d_abs (h2 : E ≤ 2047) (h3 : M < 4503599627370496) : Z4f (dW s E M) = some (dW false E M) := by
  have hl := ZNe (s := s) h2 h3; unfold Z4f; rw [ZFm]; have e1 : ((dW s E M : Int) % 18446744073709551616).toNat = dW s E M := by omega
  have e2 : (18446744073709551615 - ((9223372036854775808 : Int) % 18446744073709551616).toNat) = 2 ^ 63 - 1 := by decide
  rw [e1, e2, Z9g]; have e3 : dW s E M % 2 ^ 63 = dW false E M := by
    rw [show (2 : Nat) ^ 63 = 9223372036854775808 by decide]; unfold dW; cases s <;> simp <;> omega
  rw [e3, Int.toNat_natCast]
theorem ZHi (h2 : E ≤ 2047) (h3 : M < 4503599627370496) : ∃ q : Int, ZCa .u64 ((dW s E M : Nat) : Int) 52 = some q ∧ ZDa .u64 q 2047 = E ∧ ZDa .i64 (IntKind.i64.wrap q) 2047 = E := by
  have hl := ZNe (s := s) h2 h3; refine ⟨((dW s E M / 4503599627370496 : Nat) : Int), ?_, ?_, ?_⟩
  · unfold ZCa; rw [if_neg (by omega), show min (52 : Int).toNat IntKind.u64.bits = 52 by decide, Int.fdiv_eq_ediv_of_nonneg _ (by decide)]; rfl
  · unfold ZDa; have hq : dW s E M / 4503599627370496 % 2 ^ 11 = E := by
      rw [show (2 : Nat) ^ 11 = 2048 by decide]; unfold dW; cases s <;> simp <;> omega
    have hb : dW s E M / 4503599627370496 < 18446744073709551616 := by omega
    generalize dW s E M / 4503599627370496 = q at *; have h1 : (BitVec.ofInt IntKind.u64.bits (q : Int) &&& BitVec.ofInt IntKind.u64.bits 2047).toNat = E := by
      rw [BitVec.toNat_and, BitVec.toNat_ofInt, BitVec.toNat_ofInt]; show ((q : Int) % 18446744073709551616).toNat &&& (2 ^ 11 - 1) = E; rw [show ((q : Int) % 18446744073709551616).toNat = q by omega, Z9g, hq]
    rw [h1]; exact Z9b (Zuc.2 ⟨by omega, by omega⟩)
  · have hq : dW s E M / 4503599627370496 % 2 ^ 11 = E := by
      rw [show (2 : Nat) ^ 11 = 2048 by decide]; unfold dW; cases s <;> simp <;> omega
    have hb : dW s E M / 4503599627370496 < 4096 := by omega
    generalize dW s E M / 4503599627370496 = q at *; have hw : IntKind.i64.wrap (q : Int) = q := Z9b (ZFb.2 ⟨by omega, by omega⟩); unfold ZDa; rw [hw]; have h1 : (BitVec.ofInt IntKind.i64.bits (q : Int) &&& BitVec.ofInt IntKind.i64.bits 2047).toNat = E := by
      rw [BitVec.toNat_and, BitVec.toNat_ofInt, BitVec.toNat_ofInt]; show ((q : Int) % 18446744073709551616).toNat &&& (2 ^ 11 - 1) = E; rw [show ((q : Int) % 18446744073709551616).toNat = q by omega, Z9g, hq]
    rw [h1]; exact Z9b (ZFb.2 ⟨by omega, by omega⟩)
theorem and_bit (n i : Nat) : n &&& 2 ^ i = (n.testBit i).toNat * 2 ^ i := by
  refine Nat.eq_of_testBit_eq fun j => ?_; rw [Nat.testBit_and, Nat.testBit_two_pow]; by_cases h : i = j
  · subst h
    cases hb : n.testBit i
    · simp
    · simp
  · cases hb : n.testBit i
    · simp [h]
    · simp [h]
theorem ZAp {E M : Nat} (s : Bool) (h2 : E ≤ 2047) (h3 : M < 4503599627370496) : dW s E M &&& 9227875636482146303 = dW s 0 M := by
  have e0 : (9227875636482146303 : Nat) = 2 ^ 63 ||| (2 ^ 52 - 1) := by decide
  rw [e0, Nat.and_or_distrib_left, Z9g, and_bit]; have e1 : dW s E M % 2 ^ 52 = M := by
    rw [show (2 : Nat) ^ 52 = 4503599627370496 by decide]; unfold dW; cases s <;> simp <;> omega
  have e2 : (dW s E M).testBit 63 = s := by
    rw [Nat.testBit_eq_decide_div_mod_eq, show (2 : Nat) ^ 63 = 9223372036854775808 by decide]; unfold dW; cases s
    · simp; omega
    · simp; omega
  rw [e1, e2]; unfold dW
  cases s
  · simp
  · have := Nat.two_pow_add_eq_or_of_lt (i := 63) (b := M) (by rw [show (2 : Nat) ^ 63 = 9223372036854775808 by decide]; omega) 1; rw [Nat.mul_one] at this; simp only [Bool.toNat_true, Nat.one_mul, Nat.mul_one]; rw [← this]; simp
theorem ZQp {F M : Nat} (s : Bool) (h3 : M < 4503599627370496) (hF : F ≤ 2047) : dW s 0 M ||| F * 4503599627370496 = dW s F M := by
  have hM : M < 2 ^ 52 := by rw [show (2 : Nat) ^ 52 = 4503599627370496 by decide]; exact h3
  have e1 := Nat.two_pow_add_eq_or_of_lt hM F; have e2 := Nat.two_pow_add_eq_or_of_lt (i := 63) (b := F * 4503599627370496 + M) (by rw [show (2 : Nat) ^ 63 = 9223372036854775808 by decide]; omega) 1; have e3 := Nat.two_pow_add_eq_or_of_lt (i := 63) (b := M) (by rw [show (2 : Nat) ^ 63 = 9223372036854775808 by decide]; omega) 1; rw [show (2 : Nat) ^ 52 = 4503599627370496 by decide, Nat.mul_comm] at e1; rw [show (2 : Nat) ^ 63 * 1 = 9223372036854775808 by decide] at e2 e3; unfold dW
  cases s
  · simp only [Bool.false_eq_true, if_false, Nat.zero_mul, Nat.zero_add]; rw [Nat.or_comm, ← e1]
  · simp only [if_true, Nat.zero_mul, Nat.add_zero]; rw [e3, Nat.or_assoc, Nat.or_comm M, ← e1, ← e2]; omega
theorem d_set {F : Nat} (h2 : E ≤ 2047) (h3 : M < 4503599627370496) (hF : F ≤ 2047) : orI .u64 (Zhc .u64 ((dW s E M : Nat) : Int) 9218868437227405312) ((F * 4503599627370496 : Nat) : Int) = (dW s F M : Nat) := by
  have hl := ZNe (s := s) h2 h3; have hl0 := ZNe (s := s) (E := 0) (by omega) h3; rw [ZFm, or_fast]; have e1 : ((dW s E M : Int) % 18446744073709551616).toNat = dW s E M := by omega
  have e2 : (18446744073709551615 - ((9218868437227405312 : Int) % 18446744073709551616).toNat) = 9227875636482146303 := by decide
  rw [e1, e2, ZAp s h2 h3]; have e3 : ((dW s 0 M : Int) % 18446744073709551616).toNat = dW s 0 M := by omega
  have e4 : (((F * 4503599627370496 : Nat) : Int) % 18446744073709551616).toNat = F * 4503599627370496 := by omega
  rw [e3, e4, ZQp s h3 hF]
end
set_option maxRecDepth 100000
theorem sgn_pos {s : Bool} {m k : Nat} (h : 0 < m) : Ieee.signed s m k ≠ 0 := by
  have : 0 < m <<< k := by rw [Nat.shiftLeft_eq]; exact Nat.mul_pos h (Nat.two_pow_pos _)
  unfold Ieee.signed
  cases s <;> simp only [Bool.false_eq_true, if_false, if_true] <;> omega
theorem ZNh {m k : Nat} : Ieee.signed false m k = ((m * 2 ^ k : Nat) : Int) := by
  unfold Ieee.signed; rw [if_neg (by decide), Nat.shiftLeft_eq]
theorem d_self (x : Nat) {s : Bool} {m : Nat} {e : Int} (h : FloatKind.f64.format.read x = .number s m e) : ZDd x = some false := by
  unfold ZDd fNe Ieee.Format.order; rw [h]; unfold Ieee.Datum.order; simp
section
variable {s : Bool} {E M : Nat} (h1 : 1 ≤ E) (h2 : E ≤ 2046) (h3 : M < 4503599627370496)
include h1 h2 h3
theorem d_nan : ZDd (dW s E M) = some false := d_self _ (ZVd h1 h2 h3)
theorem d_inf : ZWe (dW s E M) 0 = some false := by
  unfold ZWe; rw [show ((0 : Int) == 0) = true from rfl, ZJ, d_abs (by omega) h3, Zc, Zc]; unfold fGt Ieee.Format.order; rw [ZVd h1 h2 h3, show (9218868437227405311 : Nat) = dW false 2046 4503599627370495 by decide, ZVd (by omega) (by omega) (by omega)]; unfold Ieee.Datum.order; simp only; rw [show min ((E : Int) - 1075) (((2046 : Nat) : Int) - 1075) = (E : Int) - 1075 by omega, show ((E : Int) - 1075 - ((E : Int) - 1075)).toNat = 0 by omega, ZNh, ZNh]; have hp := Nat.two_pow_pos ((((2046 : Nat) : Int) - 1075 - ((E : Int) - 1075)).toNat); generalize 2 ^ ((((2046 : Nat) : Int) - 1075 - ((E : Int) - 1075)).toNat) = p at *; have hm : (4503599627370496 + 4503599627370495) * 1 ≤ (4503599627370496 + 4503599627370495) * p := Nat.mul_le_mul_left _ hp; have hc : compare (((4503599627370496 + M) * 2 ^ 0 : Nat) : Int) (((4503599627370496 + 4503599627370495) * p : Nat) : Int) ≠ .gt := by
    intro hc; have := Int.compare_eq_gt.1 hc; omega
  congr 1; rw [beq_eq_false_iff_ne]; intro hh; exact hc (Option.some.inj hh)
theorem d_low : fLt .f64 (dW false E M) 4503599627370496 = false := by
  unfold fLt Ieee.Format.order; have hr := ZVd (s := false) (E := 1) (M := 0) (by omega) (by omega) (by omega); rw [show dW false 1 0 = 4503599627370496 by decide] at hr; rw [ZVd h1 h2 h3, hr]; unfold Ieee.Datum.order; simp only; rw [show min ((E : Int) - 1075) (((1 : Nat) : Int) - 1075) = -1074 by omega, show (((1 : Nat) : Int) - 1075 - -1074).toNat = 0 by omega, ZNh, ZNh]; have hp := Nat.two_pow_pos (((E : Int) - 1075 - -1074).toNat); generalize 2 ^ (((E : Int) - 1075 - -1074).toNat) = p at *; have hm : (4503599627370496 + M) * 1 ≤ (4503599627370496 + M) * p := Nat.mul_le_mul_left _ hp; rw [beq_eq_false_iff_ne]; intro hh; have := Int.compare_eq_lt.1 (Option.some.inj hh); omega
theorem d_ne0 : fEq .f64 (dW s E M) 0 = false := by
  unfold fEq Ieee.Format.order; rw [ZVd h1 h2 h3, show FloatKind.f64.format.read 0 = .number false 0 (-1074) by decide]; unfold Ieee.Datum.order; simp only; rw [beq_eq_false_iff_ne]; intro hh; have := Int.compare_eq_eq.1 (Option.some.inj hh); rw [ZNh, Nat.zero_mul] at this; exact sgn_pos (by omega) this
theorem ZUm : Zpg (dW s E M) = some (dW s E M, 0) := by
  unfold Zpg; rw [d_abs (by omega) h3, Zc, d_low h1 h2 h3, ZF]
theorem d_frexp : ZAg (dW s E M) = some (dW s 1022 M, (E : Int) - 1022) := by
  unfold ZAg; obtain ⟨q, q1, q2, _⟩ := ZHi (s := s) (E := E) (M := M) (by omega) h3; rw [d_ne0 h1 h2 h3, ZF, d_inf h1 h2 h3, Zc, ZF, d_nan h1 h2 h3, Zc, Zc, ZF, ZUm h1 h2 h3, Zc]; simp only; rw [q1, Zc, q2, Z9b (ZFb.2 ⟨by omega, by omega⟩), Zda (by omega) (by omega), Zc, Zda (by omega) (by omega), Zc, Zda (by omega) (by omega), Zc]; rw [show (4602678819172646912 : Int) = ((1022 * 4503599627370496 : Nat) : Int) by decide, d_set (by omega) h3 (by omega), Int.toNat_natCast]; congr 2; omega
end
theorem ZRo {k : FloatKind} {i : IntKind} {b : Nat} {n : Int} (h : (k.decode b).toInt .zero = some n) (h2 : i.min ≤ n ∧ n ≤ i.max) : Z7e k i b = some n := by
  unfold Z7e; rw [h]; exact if_pos h2
theorem Zek {n : Nat} (h : n < 18446744073709551616) : fits (some n) = some n := by unfold fits; simp [h]
section
variable {s : Bool} {M : Nat} (h3 : M < 4503599627370496)
include h3
theorem d_mul : fMul .f64 4607182418800017408 (dW s 1075 M) = some (dW s 1075 M) := by
  unfold fMul Ieee.Format.mul; rw [show (4607182418800017408 : Nat) = dW false 1023 0 by decide, ZVd (by omega) (by omega) (by omega), ZVd (by omega) (by omega) h3]; unfold Ieee.Datum.product; simp only [Option.map_some]; rw [show (((1023 : Nat) : Int) - 1075 + (((1075 : Nat) : Int) - 1075)) = -52 by decide, Bool.false_xor, Nat.add_zero, d_wr1 h3]; exact Zek (ZNe (by omega) h3)
theorem d_ldexp : ZLg (dW s 1022 M) 53 = some (dW s 1075 M) := by
  unfold ZLg; obtain ⟨q, q1, _, q2⟩ := ZHi (s := s) (E := 1022) (M := M) (by omega) h3; have sh : ZLb .u64 (IntKind.u64.wrap 1075) 52 = some ((1075 * 4503599627370496 : Nat) : Int) := by
    unfold ZLb; have w1 : IntKind.u64.wrap 1075 = 1075 := Z9b (Zuc.2 ⟨by omega, by omega⟩); have p52 : (2 : Int) ^ 52 = 4503599627370496 := by decide
    rw [w1, if_neg (by omega), show min (52 : Int).toNat IntKind.u64.bits = 52 from rfl, p52]; exact congrArg some (Z9b (Zuc.2 ⟨by omega, by omega⟩))
  rw [d_ne0 (by omega) (by omega) h3, ZF, d_inf (by omega) (by omega) h3, Zc, ZF, d_nan (by omega) (by omega) h3, Zc, Zc, ZF, ZUm (by omega) (by omega) h3, Zc]; simp only; rw [Zda (by omega) (by omega), Zc, q1, Zc, q2, Zda (by omega) (by omega), Zc, Zda (by omega) (by omega), Zc, show (53 + 0 + (((1022 : Nat) : Int) - 1023) : Int) = 52 by decide]; rw [show decide ((52 : Int) < -1075) = false by decide, ZF, show decide ((1023 : Int) < 52) = false by decide, ZF, show decide ((52 : Int) < -1022) = false by decide, ZF, Zc]; simp only; rw [Zda (by omega) (by omega), Zc, show (52 + 1023 : Int) = 1075 by decide, sh, Zc, d_set (by omega) h3 (by omega), Int.toNat_natCast, d_mul h3, Zc]
theorem d_toInt : (FloatKind.f64.decode (dW s 1075 M)).toInt .zero = some (if s then -((4503599627370496 + M : Nat) : Int) else ((4503599627370496 + M : Nat) : Int)) := by
  have hd : FloatKind.f64.decode (dW s 1075 M) = .number s (4503599627370496 + M) (((1075 : Nat) : Int) - 1075) := ZVd (by omega) (by omega) h3; rw [hd]; generalize 4503599627370496 + M = n; unfold Ieee.Datum.toInt Ieee.Datum.integral; have c0 : ∀ n, Ieee.Toward.zero.cut s n 0 = n := fun n => by
    unfold Ieee.Toward.cut; simp
  have t1 : (((1075 : Nat) : Int) - 1075).toNat = 0 := by decide
  have t2 : (-(((1075 : Nat) : Int) - 1075)).toNat = 0 := by decide
  simp only [t1, t2, Nat.shiftLeft_zero, c0]; unfold Ieee.signed; simp only [Nat.shiftLeft_zero]
theorem d_int : Z7e .f64 .i64 (dW s 1075 M) = some (if s then -((4503599627370496 + M : Nat) : Int) else ((4503599627370496 + M : Nat) : Int)) := by
  refine ZRo (d_toInt h3) ?_; have m1 : IntKind.i64.min = -9223372036854775808 := by decide
  have m2 : IntKind.i64.max = 9223372036854775807 := by decide
  rw [m1, m2]; generalize hn : 4503599627370496 + M = n; have hb : n ≤ 9223372036854775807 := by omega
  clear hn
  cases s
  · simp only [Bool.false_eq_true, if_false]; omega
  · simp only [if_true]; omega
end
set_option maxRecDepth 100000
def sI (s : Bool) (n : Nat) : Int := if s then -(n : Int) else (n : Int)
def dV (s : Bool) (E M : Nat) : Rat := if 1075 ≤ E then ((sI s ((4503599627370496 + M) * 2 ^ (E - 1075)) : Int) : Rat) else mkRat (sI s (4503599627370496 + M)) (2 ^ (1075 - E))
theorem Z8i (s : Bool) (n : Nat) : (sI s n).natAbs = n := by unfold sI; cases s <;> simp
theorem sI_neg {s : Bool} {n : Nat} (h : 0 < n) : decide (sI s n < 0) = s := by
  unfold sI
  cases s
  · show decide ((n : Int) < 0) = false; exact decide_eq_false (by omega)
  · show decide (-(n : Int) < 0) = true; exact decide_eq_true (by omega)
theorem ZUk {n k : Nat} (h : n < 2 ^ k) (hk : k ≤ 4398046511104) : okN n := Zvb (Nat.le_trans (ZJb h) hk)
section
variable {s : Bool} {E M : Nat} (h1 : 1 ≤ E) (h2 : E ≤ 2046) (h3 : M < 4503599627370496)
include h1 h2 h3
theorem ZHn : Zcd (dW s E M) = some (dV s E M, 0) := by
  unfold Zcd; rw [d_nan h1 h2 h3, Zc, ZF, d_inf h1 h2 h3, Zc, Zc, ZF]; unfold ZSj ZMi; rw [d_frexp h1 h2 h3]; simp only [Zc]; rw [d_ldexp h3]; simp only [Zc]; rw [d_int h3]; have hn : okN (4503599627370496 + M) := ZUk (k := 53) (by rw [show (2 : Nat) ^ 53 = 9007199254740992 by decide]; omega) (by omega); have hpos : 0 < 4503599627370496 + M := by omega
  have e1 : (if s = true then -((4503599627370496 + M : Nat) : Int) else ((4503599627370496 + M : Nat) : Int)) = sI s (4503599627370496 + M) := rfl; rw [e1]; unfold dV; generalize 4503599627370496 + M = n at *; have o1 : ofF (sI s n) = some (sI s n) := rfl; have ck : chk .i64 ((E : Int) - 1022 - 53) = some ((E : Int) - 1022 - 53) := Zda (by omega) (by omega); rw [Zc, o1, Zc, ck, Zc]; by_cases hE : 1075 ≤ E
  · rw [show decide (0 ≤ (E : Int) - 1022 - 53) = true from decide_eq_true (by omega), ZJ, if_pos hE, Z8i, sI_neg hpos]; have hk : ((E : Int) - 1022 - 53).toNat = E - 1075 := by omega
    have l1 : ZMc n ((E : Int) - 1022 - 53) = some (n * 2 ^ (E - 1075)) := by unfold ZMc; rw [if_pos ⟨hn, by omega, by omega⟩, hk]
    rw [l1, Zc]; have w1 : ZUb s (n * 2 ^ (E - 1075)) = some (sI s (n * 2 ^ (E - 1075))) := rfl; rw [w1, Zc]; generalize sI s (n * 2 ^ (E - 1075)) = i; have c1 : ZZd i 0 = some (i : Rat) := by
      unfold ZZd; have l0 : Zye 0 = 1 := rfl; have m1 : mkRat i 1 = (i : Rat) := by rw [Rat.mkRat_one]
      rw [l0, m1, if_pos ⟨by decide, Rat.num_intCast _, by rw [Rat.den_intCast]; rfl⟩]
    rw [c1, Zc]
  · rw [show decide (0 ≤ (E : Int) - 1022 - 53) = false from decide_eq_false (by omega), ZF, if_neg hE]; have w1 : ZSc 1 = some 1 := rfl; have w2 : IntKind.i64.wrap (-((E : Int) - 1022 - 53)) = ((1075 - E : Nat) : Int) := by
      rw [Z9b (ZFb.2 ⟨by omega, by omega⟩)]; omega
    rw [w1, Zc, w2]; have hp : okN (2 ^ (1075 - E)) := ZUk (k := 1076 - E) (Nat.pow_lt_pow_right (by omega) (by omega)) (by omega); have l1 : ZMc 1 ((1075 - E : Nat) : Int) = some (2 ^ (1075 - E)) := by
      unfold ZMc; rw [if_pos ⟨ZUk (k := 1) (by decide) (by omega), by omega, by omega⟩, Int.toNat_natCast, Nat.one_mul]
    have hz : 2 ^ (1075 - E) ≠ 0 := Nat.ne_of_gt (Nat.two_pow_pos _); rw [l1, Zc]; unfold Z3c; rw [Z8i, if_pos ⟨hn, hp, hz⟩, Zc]
end
theorem f_sw : FloatKind.f32.format.signWeight = 2147483648 := by decide
theorem f_bi : FloatKind.f32.format.binade = 8388608 := by decide
theorem f_in : FloatKind.f32.format.infRung = 2139095040 := by decide
theorem f_lp : FloatKind.f32.format.leastPlace = -149 := by decide
section
variable {m L : Nat} (h0 : m ≠ 0) (hL : m.log2 = L) (h23 : L ≤ 23)
include h0 hL h23
theorem f_top : 8388608 ≤ m * 2 ^ (23 - L) ∧ m * 2 ^ (23 - L) < 16777216 := by
  have hb := (Nat.log2_eq_iff h0).1 hL; have hp : 2 ^ L * 2 ^ (23 - L) = 8388608 := by rw [← Nat.pow_add, show L + (23 - L) = 23 by omega]
  refine ⟨by rw [← hp]; exact Nat.mul_le_mul_right _ hb.1, ?_⟩; have : m * 2 ^ (23 - L) < 2 ^ (L + 1) * 2 ^ (23 - L) := Nat.mul_lt_mul_of_pos_right hb.2 (Nat.two_pow_pos _); rw [Nat.pow_succ, Nat.mul_comm (2 ^ L) 2, Nat.mul_assoc, hp] at this; omega
end
set_option maxRecDepth 100000
theorem Zmq {r : Nat} (h : Zve r) : ∃ g f, FloatKind.f64.format.read r = .nan g f := by
  obtain ⟨_, h2⟩ := h; unfold Ieee.Format.read; simp only [d_sw, d_bi, d_in, d_lp]; rw [if_neg (by omega), if_neg (by omega), if_neg (by omega)]; exact ⟨_, _, rfl⟩
theorem ZUh {r : Nat} (h : Zve r) : Zcd r = some (0, 1) := by
  obtain ⟨g, f, hr⟩ := Zmq h; have hn : ZDd r = some true := by
    unfold ZDd fNe Ieee.Format.order; rw [hr]; rfl
  unfold Zcd; rw [hn, Zc, ZJ, Zc, ZJ]
theorem ZJq (g : Bool) : Zcd (FloatKind.f64.encode (.infinity g)) = some (0, 1) := by
  have h1 : ∀ g, ZDd (FloatKind.f64.encode (.infinity g)) = some false ∧ ZWe (FloatKind.f64.encode (.infinity g)) 0 = some true := by
    intro g
    cases g
    · decide +kernel
    · decide +kernel
  obtain ⟨a, b⟩ := h1 g; unfold Zcd; rw [a, Zc, ZF, b, Zc, Zc, ZJ]
theorem ZXe : Zve canon64 := ⟨by decide, by decide⟩
theorem Zmo {y r : Nat} {z : Rat × Int} (h : as64 y r) (e : Zcd y = some z) : Zcd r = some z := by
  rcases h with rfl | ⟨rfl, h | ⟨g, rfl⟩⟩
  · exact e
  · rw [ZUh h, ← e, ZUh ZXe]
  · rw [ZJq, ← e, ZUh ZXe]
set_option maxRecDepth 100000
theorem ZXj {fv : Nat} {s : Bool} {m : Nat} {e : Int} (h : FloatKind.f32.decode fv = .number s m e) : m < 16777216 ∧ -149 ≤ e ∧ e ≤ 104 := by
  have h' : FloatKind.f32.format.read fv = .number s m e := h; unfold Ieee.Format.read at h'; simp only [f_sw, f_bi, f_in, f_lp] at h'; split at h'
  · cases h'
    exact ⟨by omega, by omega, by omega⟩
  · split at h'
    · cases h'
      exact ⟨by omega, by omega, by omega⟩
    · split at h'
      · cases h'
      · cases h'
def dE (m : Nat) (e : Int) : Nat := (e + m.log2 + 1023).toNat
def dM (m : Nat) : Nat := m * 2 ^ (52 - m.log2) - 4503599627370496
section
variable {s : Bool} {m : Nat} {e : Int} (h0 : m ≠ 0) (h1 : m < 16777216) (h2 : -149 ≤ e) (h3 : e ≤ 104)
include h0 h1 h2 h3
theorem Zxj : m.log2 ≤ 23 := by
  have := (Nat.log2_lt h0 (k := 24)).2 (by omega); omega
theorem d_ok : 1 ≤ dE m e ∧ dE m e ≤ 2046 ∧ dM m < 4503599627370496 := by
  have hL := Zxj h0 h1 h2 h3; obtain ⟨q1, q2⟩ := f_top h0 rfl hL; have e5 : m * 2 ^ (23 - m.log2) * 2 ^ (52 - 23) = m * 2 ^ (52 - m.log2) := by rw [Nat.mul_assoc, ← Nat.pow_add, show 23 - m.log2 + (52 - 23) = 52 - m.log2 by omega]
  unfold dE dM; rw [← e5, show (2 : Nat) ^ (52 - 23) = 536870912 by decide]; exact ⟨by omega, by omega, by omega⟩
theorem d_enc : FloatKind.f64.encode (.number s m e) = dW s (dE m e) (dM m) := d_wr h0 rfl (by have := Zxj h0 h1 h2 h3; omega) (by omega) (by have := Zxj h0 h1 h2 h3; omega)
theorem ZVl {fv : Nat} (h : FloatKind.f32.decode fv = .number s m e) : Zce .f32 .f64 fv = some (dW s (dE m e) (dM m)) := by
  obtain ⟨a, b, c⟩ := d_ok h0 h1 h2 h3; have hd : FloatKind.f64.decode (dW s (dE m e) (dM m)) = _ := ZVd a b c; unfold Zce; rw [if_neg (by decide), h]; simp only; rw [d_enc h0 h1 h2 h3, hd]; simp only [Ieee.Datum.isInfinity, Bool.false_eq_true, if_false]; exact Zek (ZNe (by omega) c)
end
def X32 (fv : Nat) : Rat × Int := match FloatKind.f32.decode fv with
  | .number s m e => if m = 0 then (0, 0) else (dV s (dE m e) (dM m), 0)
  | _ => (0, 1)
theorem ZRm {fv : Nat} {s : Bool} {e : Int} (h : FloatKind.f32.decode fv = .number s 0 e) : Zce .f32 .f64 fv = some (if s then 9223372036854775808 else 0) := by
  have he : FloatKind.f64.encode (.number s 0 e) = if s then 9223372036854775808 else 0 := by
    show Ieee.Format.nearest FloatKind.f64.format s 0 e = _; unfold Ieee.Format.nearest Ieee.Format.word; rw [if_pos rfl, d_sw]
  have hi : ∀ s : Bool, (FloatKind.f64.decode (if s then 9223372036854775808 else 0)).isInfinity = false := fun s => by cases s <;> decide
  unfold Zce; rw [if_neg (by decide), h]; simp only; rw [he, hi s]; simp only [Bool.false_eq_true, if_false]; exact Zek (by cases s <;> simp)
theorem xfloat0 (s : Bool) : Zcd (if s then 9223372036854775808 else 0) = some (0, 0) := by
  cases s <;> decide +kernel
theorem Zfp {fv : Nat} {s : Bool} {m : Nat} {e : Int} (h : FloatKind.f32.decode fv = .number s m e) : Zvd fv = some (X32 fv) := by
  obtain ⟨h1, h2, h3⟩ := ZXj h; unfold Zvd X32; rw [h]; by_cases h0 : m = 0
  · subst h0; rw [ZHk h, ZRm h, Zc, xfloat0, Zc]; simp only [if_true]
  · obtain ⟨a, b, c⟩ := d_ok h0 h1 h2 h3; rw [ZHk h, ZVl h0 h1 h2 h3 h, Zc, ZHn a b c, Zc]; simp only [if_neg h0]
theorem Z0f (fv : Nat) : Zvd fv = some (X32 fv) := by
  cases h : FloatKind.f32.decode fv with
  | number s m e => exact Zfp h
  | infinity g =>
    unfold Zvd X32 ZBd; rw [h, Zc, ZUh ZXe, Zc]
  | nan g f =>
    unfold Zvd X32 ZBd; rw [h, Zc, ZUh ZXe, Zc]
theorem sz_dV {s : Bool} {E M : Nat} (h1 : 800 ≤ E) (h2 : E ≤ 1200) (h3 : M < 4503599627370496) : sz 300 (dV s E M) := by
  have b : bl (4503599627370496 + M) ≤ 53 := ZJb (by rw [show (2 : Nat) ^ 53 = 9007199254740992 by decide]; omega); unfold dV; by_cases hE : 1075 ≤ E
  · rw [if_pos hE]; have z := Z3l (sI s ((4503599627370496 + M) * 2 ^ (E - 1075))); rw [Z8i] at z; have b2 : bl ((4503599627370496 + M) * 2 ^ (E - 1075)) ≤ 53 + (E - 1075) := ZJb (by
      have : (4503599627370496 + M) * 2 ^ (E - 1075) < 2 ^ 53 * 2 ^ (E - 1075) := Nat.mul_lt_mul_of_pos_right (by rw [show (2 : Nat) ^ 53 = 9007199254740992 by decide]; omega) (Nat.two_pow_pos _); rw [← Nat.pow_add] at this; exact this)
    exact ⟨by omega, by omega⟩
  · rw [if_neg hE]; have b3 : bl (2 ^ (1075 - E)) ≤ 1076 - E := ZJb (Nat.pow_lt_pow_right (by omega) (by omega)); rcases ZMg (sI s (4503599627370496 + M)) (2 ^ (1075 - E)) with ⟨z1, z2⟩ | z
    · rw [Z8i] at z1; exact ⟨by omega, by omega⟩
    · exact absurd z (Nat.ne_of_gt (Nat.two_pow_pos _))
theorem ZRd (fv : Nat) : sz 300 (X32 fv).1 := by
  unfold X32
  cases h : FloatKind.f32.decode fv with
  | number s m e =>
    obtain ⟨h1, h2, h3⟩ := ZXj h; by_cases h0 : m = 0
    · simp only [if_pos h0]; exact ZLh.mono (by omega)
    · have hL := Zxj h0 h1 h2 h3; obtain ⟨a, b, c⟩ := d_ok h0 h1 h2 h3; simp only [if_neg h0]; exact sz_dV (by unfold dE; omega) (by unfold dE; omega) c
  | infinity g => exact ZLh.mono (by omega)
  | nan g f => exact ZLh.mono (by omega)
set_option maxRecDepth 100000
abbrev PT := Rat × Rat
abbrev gD (D : List PT) (i : Nat) : PT := D.getD i (0, 0)
structure Rise (D : List PT) : Prop where
  n0 : 0 < D.length
  n40 : D.length ≤ 60
  time : ∀ i j, i < j → j < D.length → (gD D i).1 < (gD D j).1
  low : ∀ j, j < D.length → (gD D 0).2 ≤ (gD D j).2
  szs : ∀ j, j < D.length → sz 300 (gD D j).1 ∧ sz 300 (gD D j).2
def kR (D : List PT) (t : Rat) : Nat := D.findIdx fun p => decide (t ≤ p.2)
theorem ZEg (D : List PT) (t : Rat) : kR D t ≤ D.length := List.findIdx_le_length
theorem kR_at {D : List PT} {t : Rat} (h : kR D t < D.length) : t ≤ (gD D (kR D t)).2 := by
  have := List.findIdx_getElem (xs := D) (p := fun p => decide (t ≤ p.2)) (w := (show D.findIdx (fun p => decide (t ≤ p.2)) < D.length from h)); unfold gD; rw [Z5c h]; exact of_decide_eq_true this
theorem ZCh {D : List PT} {t : Rat} {j : Nat} (h : j < kR D t) : (gD D j).2 < t := by
  have hl := ZEg D t; have := List.not_of_lt_findIdx (xs := D) (p := fun p => decide (t ≤ p.2)) h; unfold gD; rw [Z5c (show j < D.length by omega)]; have h2 : ¬ t ≤ (D[j]'(by omega)).2 := by simpa using this
  grind
def Zbj (p q : PT) (t : Rat) : Rat := p.1 + (t - p.2) / ((q.2 - p.2) / (q.1 - p.1))
def Ztf (D : List PT) (t : Rat) : Rat × Int :=
  if kR D t = D.length then (0, 5) else if kR D t = 0 then ((gD D 0).1, 0) else (Zbj (gD D (kR D t - 1)) (gD D (kR D t)) t, 0)
section
variable {p q : PT} {t s : Rat}
theorem div_pos {a b : Rat} (ha : 0 < a) (hb : 0 < b) : 0 < a / b := by rw [Rat.div_def]; exact Rat.mul_pos ha (Rat.inv_pos.2 hb)
end
def hiI (D : List PT) : Nat → Nat
  | 0 => 0
  | k + 1 => if (gD D (hiI D k)).2 < (gD D k).2 then k else hiI D k
theorem Zwh (D : List PT) : ∀ k, (∀ j, j < k → (gD D j).2 ≤ (gD D (hiI D k)).2) ∧ (∀ j, j < hiI D k → (gD D j).2 < (gD D (hiI D k)).2) ∧ (0 < k → hiI D k < k)
  | 0 => ⟨fun j h => by omega, fun j h => by unfold hiI at h; omega, fun h => by omega⟩
  | k + 1 => by
    obtain ⟨a, b, c⟩ := Zwh D k
    unfold hiI
    by_cases h : (gD D (hiI D k)).2 < (gD D k).2
    · rw [if_pos h]
      refine ⟨fun j hj => ?_, fun j hj => ?_, fun _ => by omega⟩
      · rcases Nat.lt_or_ge j k with h1 | h1
        · have := a j h1; grind
        · obtain rfl : j = k := by omega
          exact Rat.le_refl
      · have := a j hj; grind
    · rw [if_neg h]
      refine ⟨fun j hj => ?_, b, fun _ => ?_⟩
      · rcases Nat.lt_or_ge j k with h1 | h1
        · exact a j h1
        · obtain rfl : j = k := by omega
          grind
      · rcases Nat.eq_zero_or_pos k with h1 | h1
        · subst h1; show 0 < 1; omega
        · have := c h1; omega
section
variable {D : List PT} (R : Rise D)
include R
theorem hi_lt : hiI D D.length < D.length := (Zwh D D.length).2.2 R.n0
end
noncomputable def Zwe (l : (List (Nat × Nat))) : Option ((List (Rat × Rat)) × Int) :=
 bnd (ifb (decide ((l.length : Int) < (2 : Int)))
 (some true)
 (some (decide ((1000 : Int) < (l.length : Int)))))
 (fun (h : Bool) =>
 (ifb (h)
 (some ((([] : (List (Rat × Rat))),(4 : Int))))
 (bnd (bnd (Zea (fun s : (List (Rat × Rat)) × Int × Int=>match s with
 | (c,a,e) =>
 (ifb (decide (a < (l.length : Int)))
 (bnd (idx l a) fun f =>
 bnd (Zvd f.1) fun b =>
 bnd (Zvd f.2) fun d =>
 bnd (ifb (b.2 != ((0 : Int)))
 (some true)
 (ifb (d.2 != ((0 : Int)))
 (some true)
 (bnd (ZZc b.1) fun i =>
 some (decide (i < (0 : Int))))))
 (fun (j : Bool) =>
 (ifb (j)
 (some (.inr ((.inl ((([] : (List (Rat × Rat))),(1 : Int)))))))
 (bnd (ifb (decide ((0 : Int) < a))
 (bnd (chk .i64 (a - ((1 : Int)))) fun k =>
 bnd (idx c k) fun m =>
 bnd (Zed b.1 m.1) fun n =>
 some (decide (n ≤ (0 : Int))))
 (some false))
 (fun (o : Bool) =>
 (ifb (o)
 (some (.inr ((.inl ((([] : (List (Rat × Rat))),(7 : Int)))))))
 (bnd (Zpb 112 (c ++ [(b.1,d.1)])) fun D =>
 bnd (idx ((c ++ [(b.1,d.1)])) e) fun q =>
 bnd (Zed d.1 q.2) fun r =>
 bnd (ifb (decide (r < (0 : Int)))
 (some a)
 (some e))
 (fun (t : Int) =>
 (bnd (chk .i64 (a + ((1 : Int)))) fun u =>
 some (.inl (((c ++ [(b.1,d.1)]),u,t))))))))))))
 (some (.inr ((.inr ((c,e)))))))) Zta ((([] : (List (Rat × Rat))),(0 : Int),(0 : Int))))
 (fun (p : ((List (Rat × Rat)) × Int) ⊕ ((List (Rat × Rat)) × Int))=>match p with
 | .inl ((v,w)) =>
 (some ((.inr ((v,w)))))
 | .inr ((x,y)) =>
 (some ((.inl ((x,y)))))))
 (fun (p : ((List (Rat × Rat)) × Int) ⊕ ((List (Rat × Rat)) × Int))=>match p with
 | .inl ((g,z)) =>
 (bnd (Zrb g z ((g.length : Int))) fun A =>
 some ((A,(0 : Int))))
 | .inr ((B,C)) =>
 (some ((B,C)))))))
noncomputable def ZLj (p : (Rat × Rat)) (q : (Rat × Rat)) : Option (Int) :=
 bnd (Zed p.2 q.2) fun a =>
 some a
noncomputable def ZEi (l : (List (Rat × Rat))) (g : Unit) : Option ((Rat × Rat)) :=
 ifb (decide ((l.length : Int) < (1 : Int)))
  (none)
 (bnd (idx l ((0 : Int))) fun c =>
 bnd (bnd (Zea (fun s : (Rat × Rat) × Int=>match s with
 | (a,b) =>
 (ifb (decide (b < (l.length : Int)))
 (bnd (idx l b) fun d =>
 bnd (ZLj ((d.1,d.2)) ((a.1,a.2))) fun j =>
 bnd (ifb (decide ((0 : Int) < j))
 (bnd (idx l b) fun e =>
 some ((e.1,e.2)))
 (some ((a.1,a.2))))
 (fun (f : (Rat × Rat)) =>
 (bnd (chk .i64 (b + ((1 : Int)))) fun k =>
 some (.inl (((f.1,f.2),k))))))
 (some (.inr ((a.1,a.2)))))) Zta (((c.1,c.2),(1 : Int))))
 (fun (h : (Rat × Rat)) =>
 (some ((h.1,h.2)))))
 (fun (i : (Rat × Rat)) =>
 (some ((i.1,i.2)))))
noncomputable def Z7h (l : (List (Rat × Rat))) : Option ((Rat × Rat)) :=
 bnd (ZEi l (())) fun a =>
 some ((a.1,a.2))
noncomputable def Z4h (p : (Rat × Rat)) (t : Rat) : Option (Bool) :=
 bnd (Zed p.2 t) fun a =>
 some (decide ((0 : Int) ≤ a))
noncomputable def Znh (l : (List (Rat × Rat))) (g : Rat) : Option (Int) :=
 bnd (bnd (Zea (fun s : Int=>match s with
 | a =>
 (ifb (decide (a < (l.length : Int)))
 (bnd (idx l a) fun b =>
 bnd (Z4h ((b.1,b.2)) g) fun c =>
 ifb (c)
 (some (.inr ((.inl a))))
 (bnd (chk .i64 (a + ((1 : Int)))) fun d =>
 some (.inl d)))
 (some (.inr ((.inr (()))))))) Zta ((0 : Int)))
 (fun (p : (Int) ⊕ (Unit))=>match p with
 | .inl e =>
 (some ((.inr e)))
 | .inr (()) =>
 (some ((.inl (()))))))
 (fun (p : (Unit) ⊕ (Int))=>match p with
 | .inl (()) =>
 (some ((-1 : Int)))
 | .inr f =>
 (some f))
noncomputable def Zqe (p : (Rat × Rat)) (q : (Rat × Rat)) : Option (Rat) :=
 bnd (bnd (Z8d q.2 p.2) fun a =>
 bnd (Z8d q.1 p.1) fun b =>
 bnd (Zpe a b) fun c =>
 some c.1)
 (fun (d : Rat) =>
 (some d))
noncomputable def Z8h (l : (List (Rat × Rat))) (t : Rat) : Option (Rat × Int) :=
 bnd (Znh l t) fun a =>
 ifb (decide (a < (0 : Int)))
 (some (((0 : Rat),(5 : Int))))
 (ifb (a == ((0 : Int)))
 (bnd (idx l ((0 : Int))) fun d =>
 some ((d.1,(0 : Int))))
 (bnd (chk .i64 (a - ((1 : Int)))) fun e =>
 bnd (idx l e) fun b =>
 bnd (bnd (Z8d t b.2) fun f =>
 bnd (idx l a) fun c =>
 bnd (Zqe ((b.1,b.2)) ((c.1,c.2))) fun g =>
 bnd (Zpe f g) fun h =>
 some h.1)
 (fun (i : Rat) =>
 (bnd (Zwd b.1 i) fun j =>
 some ((j,(0 : Int)))))))
noncomputable def ZYe (l : (List (Nat × Nat))) (t : Rat) : Option (Rat × Int) :=
 bnd (Zwe l) fun a =>
 ifb (a.2 != ((0 : Int)))
 (some (((0 : Rat),a.2)))
 (bnd (Z8h a.1 t) fun b =>
 some ((b.1,b.2)))
noncomputable def ZCf (l : (List (Nat × Nat))) : Option ((Rat × Rat × Rat × Rat) × Int) :=
 bnd (Zwe l) fun a =>
 ifb (a.2 != ((0 : Int)))
 (some ((((0 : Rat),(0 : Rat),(0 : Rat),(0 : Rat)),a.2)))
 (bnd (Z7h a.1) fun b =>
 bnd (idx a.1 ((0 : Int))) fun c =>
 bnd (idx a.1 ((0 : Int))) fun d =>
 some (((c.2,d.1,b.2,b.1),(0 : Int))))
set_option maxRecDepth 100000
theorem sg4 (x : Rat) : ZZc x = some x.num.sign := rfl
theorem lt4 {x y : Rat} : decide ((x - y).num.sign < 0) = decide (x < y) := decide_eq_decide.2 (by rw [ZDf]; constructor <;> intro h <;> grind)
theorem le4 {x y : Rat} : decide ((x - y).num.sign ≤ 0) = decide (x ≤ y) := decide_eq_decide.2 (by rw [ZCp]; constructor <;> intro h <;> grind)
theorem gt4 {x y : Rat} : decide (0 < (x - y).num.sign) = decide (y < x) := decide_eq_decide.2 (by rw [Zhl]; constructor <;> intro h <;> grind)
theorem ge4 {x y : Rat} : decide (0 ≤ (x - y).num.sign) = decide (y ≤ x) := decide_eq_decide.2 (by rw [Zgo]; constructor <;> intro h <;> grind)
def loI (Q : List PT) : Nat → Nat
  | 0 => 0
  | k + 1 => if (gD Q k).2 < (gD Q (loI Q k)).2 then k else loI Q k
theorem ZFf (Q : List PT) : ∀ k, (∀ j, j < k → (gD Q (loI Q k)).2 ≤ (gD Q j).2) ∧ (loI Q k ≤ k) ∧ (0 < k → loI Q k < k)
  | 0 => ⟨fun j h => by omega, Nat.le_refl _, fun h => by omega⟩
  | k + 1 => by
    obtain ⟨a, b, c⟩ := ZFf Q k
    unfold loI
    by_cases h : (gD Q k).2 < (gD Q (loI Q k)).2
    · rw [if_pos h]
      refine ⟨fun j hj => ?_, by omega, fun _ => by omega⟩
      rcases Nat.lt_or_ge j k with h1 | h1
      · have := a j h1; grind
      · obtain rfl : j = k := by omega
        exact Rat.le_refl
    · rw [if_neg h]
      refine ⟨fun j hj => ?_, by omega, fun _ => ?_⟩
      · rcases Nat.lt_or_ge j k with h1 | h1
        · exact a j h1
        · obtain rfl : j = k := by omega
          grind
      · rcases Nat.eq_zero_or_pos k with h1 | h1
        · subst h1; show 0 < 1; omega
        · have := c h1; omega
structure Pts (c : List (Nat × Nat)) (Q : List PT) : Prop where
  len : c.length = Q.length
  n2 : 2 ≤ Q.length
  n40 : Q.length ≤ 60
  x1 : ∀ i, (h : i < c.length) → Zvd c[i].1 = some ((gD Q i).1, 0)
  x2 : ∀ i, (h : i < c.length) → Zvd c[i].2 = some ((gD Q i).2, 0)
  pos : ∀ i, i < Q.length → 0 ≤ (gD Q i).1
  time : ∀ i j, i < j → j < Q.length → (gD Q i).1 < (gD Q j).1
  szs : ∀ i, i < Q.length → sz 300 (gD Q i).1 ∧ sz 300 (gD Q i).2
theorem ZYh (Q : List PT) (k j : Nat) : gD (Q.drop k) j = gD Q (k + j) := by
  unfold gD; rw [List.getD_eq_getElem?_getD, List.getD_eq_getElem?_getD, List.getElem?_drop]
section
variable {c : List (Nat × Nat)} {Q : List PT} (H : Pts c Q)
include H
theorem Pts.rise : Rise (Q.drop (loI Q Q.length)) := by
  obtain ⟨a, b, e⟩ := ZFf Q Q.length; have hn := H.n2; have hl := e (by omega); have hd : (Q.drop (loI Q Q.length)).length = Q.length - loI Q Q.length := List.length_drop ..; have h40 := H.n40; refine ⟨by omega, by omega, fun i j hij hj => ?_, fun j hj => ?_, fun j hj => ?_⟩
  · rw [ZYh, ZYh]; exact H.time _ _ (by omega) (by omega)
  · rw [ZYh, ZYh, Nat.add_zero]; exact a _ (by omega)
  · rw [ZYh]; exact H.szs _ (by omega)
theorem rise_eq : Zwe c = some (Q.drop (loI Q Q.length), 0) := by
  have hn := H.n2; have h40 := H.n40; have hc := H.len; unfold Zwe; rw [decide_eq_false (by omega), ZF, decide_eq_false (by omega), Zc, ZF]; refine ZYa (y := .inl (Q, (loI Q Q.length : Int))) (ZYa (y := .inr (Q, (loI Q Q.length : Int))) (Zad (fun k => (Q.take k, (k : Int), (loI Q k : Int))) c.length rfl (by omega) (fun k hk => ?_) ?_) rfl) ?_
  · have g := Z5c (l := Q) (d := ((0 : Rat), (0 : Rat))) (show k < Q.length by omega); have e : Q.take k ++ [((gD Q k).1, (gD Q k).2)] = Q.take (k + 1) := by
      rw [List.take_succ_eq_append_getElem (by omega)]; show _ ++ [gD Q k] = _; rw [show gD Q k = Q[k] from g]
    have zk := H.szs k (by omega); have pk := H.pos k (by omega); obtain ⟨_, lo1, _⟩ := ZFf Q k; have zl := H.szs (loI Q k) (by omega); have t1 : (Q.take (k + 1)).length = k + 1 := by rw [List.length_take]; omega
    have r1 : Zpb 112 (Q.take (k + 1)) = some () := by unfold Zpb; rw [if_pos (by omega)]
    have i1 : idx (Q.take (k + 1)) (loI Q k : Int) = some (gD Q (loI Q k)) := by
      rw [Zja (by omega), List.getElem_take]; exact congrArg some (Z5c (l := Q) (d := ((0 : Rat), (0 : Rat))) (show loI Q k < Q.length by omega)).symm
    have b0 : ((0 : Int) != 0) = false := rfl; have sn : decide ((gD Q k).1.num.sign < 0) = false := decide_eq_false fun h => by have := ZDf.1 h; grind
    simp only; rw [decide_eq_true (by omega), ZJ, Zja hk, Zc, H.x1 k hk, Zc, H.x2 k hk, Zc]; simp only [b0, ZF]; rw [sg4, Zc, sn, Zc, ZF, e]; refine ZYa (y := false) ?_ ?_
    · by_cases h0 : 0 < k
      · have e1 : (k : Int) - 1 = ((k - 1 : Nat) : Int) := by omega
        have t0 : (Q.take k).length = k := by rw [List.length_take]; omega
        have i0 : idx (Q.take k) ((k - 1 : Nat) : Int) = some (gD Q (k - 1)) := by
          rw [Zja (by omega), List.getElem_take]; exact congrArg some (Z5c (l := Q) (d := ((0 : Rat), (0 : Rat))) (show k - 1 < Q.length by omega)).symm
        have tt := H.time (k - 1) k (by omega) (by omega); rw [decide_eq_true (by omega), ZJ, Zda (by omega) (by omega), Zc, e1, i0, Zc, Zhf zk.1 (H.szs (k - 1) (by omega)).1 (by omega), Zc, le4, decide_eq_false (by grind)]
      · rw [decide_eq_false (by omega), ZF]
    rw [ZF, r1, Zc, i1, Zc, Zhf zk.2 zl.2 (by omega), Zc, lt4]; refine ZYa (y := (loI Q (k + 1) : Int)) ?_ ?_
    · have el : loI Q (k + 1) = if (gD Q k).2 < (gD Q (loI Q k)).2 then k else loI Q k := rfl; rw [el]; by_cases h : (gD Q k).2 < (gD Q (loI Q k)).2
      · rw [decide_eq_true h, ZJ, if_pos h]
      · rw [decide_eq_false h, ZF, if_neg h]
    rw [Zda (by omega) (by omega), Zc]; rfl
  · simp only; rw [decide_eq_false (by omega), ZF, hc, List.take_length]
  · obtain ⟨_, lo1, _⟩ := ZFf Q Q.length; have ec : Zrb Q (loI Q Q.length : Int) (Q.length : Int) = some (Q.drop (loI Q Q.length)) := by
      unfold Zrb; rw [if_pos ⟨by omega, by omega, by omega⟩, Int.toNat_natCast, Int.toNat_natCast, List.take_length]
    simp only; rw [ec, Zc]
end
section
variable {D : List PT} (R : Rise D)
include R
theorem ZXc {i : Nat} (h : i < D.length) : idx D (i : Int) = some (gD D i) := by
  rw [Zja h]; exact congrArg some (Z5c (l := D) (d := ((0 : Rat), (0 : Rat))) h).symm
theorem ZPo : Z7h D = some (gD D (hiI D D.length)) := by
  have hn := R.n0; have h40 := R.n40; unfold Z7h ZEi; have i0 : idx D (0 : Int) = some (gD D 0) := ZXc R hn; rw [decide_eq_false (by omega), ZF, i0, Zc]; have h1 : hiI D 1 = 0 := by
    show (if (gD D 0).2 < (gD D 0).2 then 0 else 0) = 0; split <;> rfl
  refine ZYa (y := gD D (hiI D D.length)) (ZYa (y := gD D (hiI D D.length)) (ZYa (y := gD D (hiI D D.length)) (Zad (fun k => (gD D (hiI D (k + 1)), ((k + 1 : Nat) : Int))) (D.length - 1) ?_ (by omega) (fun k hk => ?_) ?_) rfl) rfl) rfl
  · show (gD D (hiI D 1), ((1 : Nat) : Int)) = _; rw [h1]; rfl
  · have hk1 : k + 1 < D.length := by omega
    have zk := R.szs _ hk1; have hh := (Zwh D (k + 1)).2.2 (by omega); have zh := R.szs (hiI D (k + 1)) (by omega); have el : hiI D (k + 2) = if (gD D (hiI D (k + 1))).2 < (gD D (k + 1)).2 then k + 1 else hiI D (k + 1) := rfl; simp only; rw [decide_eq_true (by omega), ZJ, ZXc R hk1, Zc]; unfold ZLj; rw [Zhf zk.2 zh.2 (by omega), Zc, Zc, gt4]; refine ZYa (y := gD D (hiI D (k + 2))) ?_ ?_
    · rw [el]; by_cases h : (gD D (hiI D (k + 1))).2 < (gD D (k + 1)).2
      · rw [decide_eq_true h, ZJ, if_pos h, Zc]
      · rw [decide_eq_false h, ZF, if_neg h]
    rw [Zda (by omega) (by omega), Zc]; rfl
  · simp only; rw [decide_eq_false (by omega), ZF, show D.length - 1 + 1 = D.length by omega]
theorem Z0o {t : Rat} (zt : sz 1000 t) : Znh D t = some (if kR D t = D.length then -1 else (kR D t : Int)) := by
  have h40 := R.n40; have b1 : ∀ i, (hi : i < D.length) → Z4h ((gD D i).1, (gD D i).2) t = some (decide (t ≤ (gD D i).2)) := fun i hi => by
    unfold Z4h; rw [Zhf (R.szs i hi).2 zt (by omega), Zc, ge4]
  unfold Znh; by_cases hc : kR D t = D.length
  · rw [if_pos hc]; refine ZYa (y := .inl ()) (ZYa (y := .inr ()) (Zad (fun k => (k : Int)) D.length rfl (by omega) (fun k hk => ?_) ?_) rfl) rfl
    · have hb := ZCh (D := D) (t := t) (j := k) (by omega); simp only; rw [decide_eq_true (by omega), ZJ, ZXc R hk, Zc, b1 k hk, Zc, decide_eq_false (by grind), ZF, Zda (by omega) (by omega), Zc]; rfl
    · simp only; rw [decide_eq_false (by omega), ZF]
  · have hl := ZEg D t; have hlt : kR D t < D.length := by omega
    rw [if_neg hc]; refine ZYa (y := .inr (kR D t : Int)) (ZYa (y := .inl (kR D t : Int)) (Zad (fun k => (k : Int)) (kR D t) rfl (by omega) (fun k hk => ?_) ?_) rfl) rfl
    · have hb := ZCh (D := D) (t := t) (j := k) hk; simp only; rw [decide_eq_true (by omega), ZJ, ZXc R (by omega), Zc, b1 k (by omega), Zc, decide_eq_false (by grind), ZF, Zda (by omega) (by omega), Zc]; rfl
    · simp only; rw [decide_eq_true (by omega), ZJ, ZXc R hlt, Zc, b1 _ hlt, Zc, decide_eq_true (kR_at hlt), ZJ]
theorem ZZq {t : Rat} (zt : sz 1000 t) : Z8h D t = some (Ztf D t) := by
  have h40 := R.n40; have h0 := R.n0; unfold Z8h Ztf; rw [Z0o R zt, Zc]; by_cases hc : kR D t = D.length
  · rw [if_pos hc, if_pos hc]; rfl
  · have hl := ZEg D t; have hlt : kR D t < D.length := by omega
    rw [if_neg hc, if_neg hc, decide_eq_false (by omega), ZF]; have at_t := kR_at hlt; have bt : ∀ j, j < kR D t → (gD D j).2 < t := fun j hj => ZCh hj; generalize kR D t = k at *; by_cases hk : k = 0
    · subst hk; rw [if_pos rfl, show ((((0 : Nat) : Int)) == (0 : Int)) = true from rfl, ZJ, show idx D (0 : Int) = some (gD D 0) from ZXc R h0, Zc]
    · have e0 : (((k : Nat) : Int) == (0 : Int)) = false := by rw [Bool.eq_false_iff]; intro h; rw [beq_iff_eq] at h; omega
      have e1 : (k : Int) - 1 = ((k - 1 : Nat) : Int) := by omega
      have zp := R.szs (k - 1) (by omega); have zq := R.szs k hlt; have tt := R.time (k - 1) k (by omega) hlt; have vv := bt (k - 1) (by omega); have d1 := ZLc zt zp.2; have d2 := ZLc zq.2 zp.2; have d3 := ZLc zq.1 zp.1; have d4 := Z6f d2 d3; have d5 := Z6f d1 d4; have n3 : (gD D k).1 - (gD D (k - 1)).1 ≠ 0 := by grind
      have n4 : ((gD D k).2 - (gD D (k - 1)).2) / ((gD D k).1 - (gD D (k - 1)).1) ≠ 0 := by
        have := div_pos (show 0 < (gD D k).2 - (gD D (k - 1)).2 by grind) (show 0 < (gD D k).1 - (gD D (k - 1)).1 by grind); grind
      rw [if_neg hk, e0, ZF, Zda (by omega) (by omega), Zc, e1, ZXc R (by omega), Zc]; refine ZYa (y := (t - (gD D (k - 1)).2) / (((gD D k).2 - (gD D (k - 1)).2) / ((gD D k).1 - (gD D (k - 1)).1))) ?_ ?_
      · unfold Zqe; rw [ZIh zt zp.2 (by omega), Zc, ZXc R hlt, Zc, ZIh zq.2 zp.2 (by omega), Zc, ZIh zq.1 zp.1 (by omega), Zc, Z5k d2 d3 (by omega) n3, Zc, Zc, Zc, Z5k d1 d4 (by omega) n4, Zc]
      · rw [qadd_ok zp.1 d5 (by omega), Zc]; rfl
theorem ZFo {t : Rat} (zt : sz 1000 t) : sz 4000 (Ztf D t).1 := by
  have h0 := R.n0; unfold Ztf; by_cases hc : kR D t = D.length
  · rw [if_pos hc]; exact ZLh.mono (by omega)
  · have hl := ZEg D t; rw [if_neg hc]; by_cases hk : kR D t = 0
    · rw [if_pos hk]; exact (R.szs 0 h0).1.mono (by omega)
    · rw [if_neg hk]; have zp := R.szs (kR D t - 1) (by omega); have zq := R.szs (kR D t) (by omega); unfold Zbj; exact (Zik zp.1 (Z6f (ZLc zt zp.2) (Z6f (ZLc zq.2 zp.2) (ZLc zq.1 zp.1)))).mono (by omega)
end
set_option maxRecDepth 100000
def cf (c : Nat → Int) : Nat → Nat → Int
  | _, 0 => 0
  | i, m + 1 => if c i ≠ 0 then c i else cf c (i + 1) m
theorem Zlo {body : Int → Option (Int ⊕ (Int ⊕ Unit))} (c : Nat → Int) (n : Nat) (hn : n < 2 ^ 62) (h1 : ∀ i, i < n → body (i : Int) = if c i ≠ 0 then some (.inr (.inl (c i))) else some (.inl ((i : Int) + 1))) (he : body (n : Int) = some (.inr (.inr ()))) :
    Zea body Zta 0 = some (if cf c 0 n ≠ 0 then .inl (cf c 0 n) else .inr ()) := by
  have key : ∀ m F i, i + m = n → m < F → Zea body F (i : Int) = some (if cf c i m ≠ 0 then .inl (cf c i m) else .inr ()) := by
    intro m
    induction m with
    | zero =>
      intro F i hi hF; obtain ⟨F, rfl⟩ : ∃ g, F = g + 1 := ⟨F - 1, by omega⟩; obtain rfl : i = n := by omega
      unfold Zea; rw [he, Zc]; rfl
    | succ m ih =>
      intro F i hi hF; obtain ⟨F, rfl⟩ : ∃ g, F = g + 1 := ⟨F - 1, by omega⟩; unfold Zea; rw [h1 i (by omega)]; unfold cf; by_cases h : c i ≠ 0
      · rw [if_pos h, Zc, if_pos h, if_pos h]
      · rw [if_neg h, Zc, if_neg h]; exact ih F (i + 1) (by omega) (by omega)
  exact key n Zta 0 (by omega) (ZTa (by omega))
theorem ZCm {c : Nat → Int} : ∀ m i, cf c i m = 0 → ∀ j, j < m → c (i + j) = 0
  | 0, _, _, j, h => by omega
  | m + 1, i, h0, j, h => by
    unfold cf at h0
    by_cases hc : c i ≠ 0
    · rw [if_pos hc] at h0; exact absurd h0 hc
    · rw [if_neg hc] at h0
      rcases Nat.eq_zero_or_pos j with h1 | h1
      · subst h1; exact Decidable.not_not.1 hc
      · have := ZCm m (i + 1) h0 (j - 1) (by omega)
        rw [show i + 1 + (j - 1) = i + j by omega] at this
        exact this
theorem ZPm {c : Nat → Int} : ∀ m i, cf c i m ≠ 0 → ∃ b, b < m ∧ (∀ j, j < b → c (i + j) = 0) ∧ c (i + b) = cf c i m
  | 0, _, h => absurd rfl h
  | m + 1, i, h => by
    unfold cf at h ⊢
    by_cases hc : c i ≠ 0
    · rw [if_pos hc]
      exact ⟨0, by omega, fun j h => by omega, rfl⟩
    · rw [if_neg hc] at h ⊢
      obtain ⟨b, h1, h2, h3⟩ := ZPm m (i + 1) h
      refine ⟨b + 1, by omega, fun j hj => ?_, by rw [show i + (b + 1) = i + 1 + b by omega]; exact h3⟩
      rcases Nat.eq_zero_or_pos j with e | e
      · subst e; exact Decidable.not_not.1 hc
      · have := h2 (j - 1) (by omega)
        rwa [show i + 1 + (j - 1) = i + j by omega] at this
abbrev gB (l : List (Nat × Nat)) (i : Nat) : Nat × Nat := l.getD i (0, 0)
def pv (p : Nat × Nat) : PT := ((X32 p.1).1, (X32 p.2).1)
def Z9e (p : Nat × Nat) : Prop := (X32 p.1).2 ≠ 0 ∨ (X32 p.2).2 ≠ 0 ∨ (X32 p.1).1 < 0
instance (p : Nat × Nat) : Decidable (Z9e p) := inferInstanceAs (Decidable (_ ∨ _))
def ckC (l : List (Nat × Nat)) (i : Nat) : Int := if Z9e (gB l i) then 1 else if 0 < i ∧ (pv (gB l i)).1 ≤ (pv (gB l (i - 1))).1 then 7 else 0
def ZRc (l : List (Nat × Nat)) : Int := if l.length < 2 ∨ 1000 < l.length then 4 else cf (ckC l) 0 l.length
section
variable {l : List (Nat × Nat)}
theorem Zsd {i : Nat} (h : i < l.length) : gD (l.map pv) i = pv (gB l i) := by
  unfold gD gB; rw [Z5c (by simpa using h), Z5c h, List.getElem_map]
theorem Zwf {i : Nat} (h : i < l.length) : l[i] = gB l i := (Z5c (l := l) (d := ((0 : Nat), (0 : Nat))) h).symm
theorem Zjk {i : Nat} (h : ckC l i = 0) : ¬ Z9e (gB l i) ∧ (0 < i → (pv (gB l (i - 1))).1 < (pv (gB l i)).1) := by
  unfold ckC at h; split at h
  · cases h
  · rename_i h1; split at h
    · cases h
    · rename_i h2; refine ⟨h1, fun hi => ?_⟩; have : ¬ (pv (gB l i)).1 ≤ (pv (gB l (i - 1))).1 := fun h3 => h2 ⟨hi, h3⟩; grind
theorem Zhk (h : ZRc l = 0) : 2 ≤ l.length ∧ l.length ≤ 1000 ∧ ∀ i, i < l.length → ckC l i = 0 := by
  unfold ZRc at h; split at h
  · cases h
  · refine ⟨by omega, by omega, fun i hi => ?_⟩; have := ZCm _ _ h i hi
    rwa [Nat.zero_add] at this
theorem Zkn (h : ZRc l = 0) {i : Nat} : ∀ j, i < j → j < l.length → (pv (gB l i)).1 < (pv (gB l j)).1
  | 0, h1, _ => by omega
  | j + 1, h1, h2 => by
    have c := (Zjk ((Zhk h).2.2 (j + 1) h2)).2 (by omega)
    rw [Nat.add_sub_cancel] at c
    rcases Nat.lt_or_ge i j with h3 | h3
    · have := Zkn h j h3 (by omega); grind
    · obtain rfl : i = j := by omega
      exact c
theorem Zmm {fv : Nat} (h : (X32 fv).2 = 0) : X32 fv = ((X32 fv).1, 0) := by rw [← h]
theorem pts_of (h : ZRc l = 0) (h60 : l.length ≤ 60) : Pts l (l.map pv) := by
  obtain ⟨n2, n3, hc⟩ := Zhk h; have hb : ∀ i, i < l.length → ¬ Z9e (gB l i) := fun i hi => (Zjk (hc i hi)).1; refine ⟨by simp, by simpa using n2, by simpa using h60, fun i hi => ?_, fun i hi => ?_, fun i hi => ?_, fun i j hij hj => ?_, fun i hi => ?_⟩
  · rw [Zsd hi, Zwf hi, Z0f]; exact congrArg some (Zmm (Decidable.not_not.1 fun k => hb i hi (.inl k)))
  · rw [Zsd hi, Zwf hi, Z0f]; exact congrArg some (Zmm (Decidable.not_not.1 fun k => hb i hi (.inr (.inl k))))
  · have hi' : i < l.length := by simpa using hi
    rw [Zsd hi']; have : ¬ (pv (gB l i)).1 < 0 := fun k => hb i hi' (.inr (.inr k)); grind
  · have hj' : j < l.length := by simpa using hj
    rw [Zsd (by omega), Zsd hj']; exact Zkn h j hij hj'
  · have hi' : i < l.length := by simpa using hi
    rw [Zsd hi']; exact ⟨ZRd _, ZRd _⟩
theorem Z7n (h : ZRc l ≠ 0) (h60 : l.length ≤ 60) : Zwe l = some ([], ZRc l) := by
  unfold Zwe; unfold ZRc at h ⊢; by_cases n2 : l.length < 2
  · rw [decide_eq_true (by omega), ZJ, Zc, ZJ, if_pos (.inl n2)]
  have n4 : ¬ (l.length < 2 ∨ 1000 < l.length) := by omega
  rw [if_neg n4] at h ⊢; rw [decide_eq_false (by omega), ZF, decide_eq_false (by omega), Zc, ZF]; obtain ⟨b, hb, hz, hcb⟩ := ZPm _ _ h; rw [Nat.zero_add] at hcb; rw [← hcb]; have hcb0 : ckC l b ≠ 0 := by rw [hcb]; exact h
  have hk0 : ∀ k, k < b → ckC l k = 0 := fun k hk => by have := hz k hk; rwa [Nat.zero_add] at this
  have b0 : ((0 : Int) != 0) = false := rfl; have hlen : (l.map pv).length = l.length := List.length_map ..; have sg5 : ∀ x : Rat, ZZc x = some x.num.sign := fun _ => rfl; have test : ∀ p : Nat × Nat, (ifb ((X32 p.1).2 != 0) (some true) (ifb ((X32 p.2).2 != 0) (some true) (bnd (ZZc (X32 p.1).1) fun y => some (decide (y < 0))))) = some (decide (Z9e p)) := fun p => by
    by_cases k1 : (X32 p.1).2 = 0
    · rw [show ((X32 p.1).2 != 0) = false by simpa using k1, ZF]; by_cases k2 : (X32 p.2).2 = 0
      · rw [show ((X32 p.2).2 != 0) = false by simpa using k2, ZF, sg5, Zc]; exact congrArg some (decide_eq_decide.2 ⟨fun k => .inr (.inr (ZDf.1 k)), fun k => ZDf.2 (by rcases k with k | k | k; exact absurd k1 k; exact absurd k2 k; exact k)⟩)
      · rw [show ((X32 p.2).2 != 0) = true by simpa using k2, ZJ, decide_eq_true (.inr (.inl k2))]
    · rw [show ((X32 p.1).2 != 0) = true by simpa using k1, ZJ, decide_eq_true (.inl k1)]
  have prev : ∀ k, k < l.length → (ifb (decide ((0 : Int) < (k : Int))) (bnd (chk .i64 ((k : Int) - 1)) fun y322 => bnd (idx ((l.map pv).take k) y322) fun y324 => bnd (Zed (X32 (gB l k).1).1 y324.1) fun y340 => some (decide (y340 ≤ (0 : Int)))) (some false)) = some (decide (0 < k ∧ (pv (gB l k)).1 ≤ (pv (gB l (k - 1))).1)) := fun k hk => by
    by_cases h0 : 0 < k
    · have e1 : (k : Int) - 1 = ((k - 1 : Nat) : Int) := by omega
      have t0 : ((l.map pv).take k).length = k := by rw [List.length_take]; omega
      have i0 : idx ((l.map pv).take k) ((k - 1 : Nat) : Int) = some (pv (gB l (k - 1))) := by
        rw [Zja (by omega), List.getElem_take, List.getElem_map, Zwf (by omega)]
      rw [decide_eq_true (by omega), ZJ, Zda (by omega) (by omega), Zc, e1, i0, Zc, Zhf (ZRd _) (show sz 300 (pv (gB l (k - 1))).1 from ZRd _) (by omega), Zc, le4]; exact congrArg some (decide_eq_decide.2 ⟨fun k => ⟨h0, k⟩, fun k => k.2⟩)
    · rw [decide_eq_false (by omega), ZF, decide_eq_false (fun k => h0 k.1)]
  refine ZYa (y := .inr ([], ckC l b)) (ZYa (y := .inl ([], ckC l b)) (Zad (fun k => ((l.map pv).take k, (k : Int), (loI (l.map pv) k : Int))) b rfl (by omega) (fun k hk => ?_) ?_) rfl) rfl
  · obtain ⟨c1, c2⟩ := Zjk (hk0 k hk); have hkl : k < l.length := by omega
    have e : (l.map pv).take k ++ [((X32 (gB l k).1).1, (X32 (gB l k).2).1)] = (l.map pv).take (k + 1) := by
      rw [List.take_succ_eq_append_getElem (by omega), List.getElem_map, Zwf hkl]; rfl
    obtain ⟨_, lo1, _⟩ := ZFf (l.map pv) k; have t1 : ((l.map pv).take (k + 1)).length = k + 1 := by rw [List.length_take]; omega
    have r1 : Zpb 112 ((l.map pv).take (k + 1)) = some () := by unfold Zpb; rw [if_pos (by omega)]
    have i1 : idx ((l.map pv).take (k + 1)) (loI (l.map pv) k : Int) = some (gD (l.map pv) (loI (l.map pv) k)) := by
      rw [Zja (by omega), List.getElem_take]; exact congrArg some (Z5c (l := l.map pv) (d := ((0 : Rat), (0 : Rat))) (show loI (l.map pv) k < (l.map pv).length by omega)).symm
    have zl : sz 300 (gD (l.map pv) (loI (l.map pv) k)).2 := by rw [Zsd (by omega)]; exact ZRd _
    simp only; rw [decide_eq_true (by omega), ZJ, Zja hkl, Zwf hkl, Zc, Z0f, Zc, Z0f, Zc, test, decide_eq_false c1, Zc, ZF, prev k hkl, Zc, decide_eq_false (fun hh => by have := c2 hh.1; have := hh.2; grind), ZF, e, r1, Zc, i1, Zc, Zhf (ZRd _) zl (by omega), Zc, lt4]; refine ZYa (y := (loI (l.map pv) (k + 1) : Int)) ?_ ?_
    · have el : loI (l.map pv) (k + 1) = if (gD (l.map pv) k).2 < (gD (l.map pv) (loI (l.map pv) k)).2 then k else loI (l.map pv) k := rfl; rw [el, Zsd hkl]; by_cases hh : (pv (gB l k)).2 < (gD (l.map pv) (loI (l.map pv) k)).2
      · rw [show decide ((X32 (gB l k).2).1 < (gD (l.map pv) (loI (l.map pv) k)).2) = true from decide_eq_true hh, ZJ, if_pos hh]
      · rw [show decide ((X32 (gB l k).2).1 < (gD (l.map pv) (loI (l.map pv) k)).2) = false from decide_eq_false hh, ZF, if_neg hh]
    rw [Zda (by omega) (by omega), Zc]; rfl
  · simp only; rw [decide_eq_true (by omega), ZJ, Zja hb, Zwf hb, Zc, Z0f, Zc, Z0f, Zc, test, Zc]; unfold ckC at hcb0 ⊢; by_cases c1 : Z9e (gB l b)
    · rw [decide_eq_true c1, ZJ, if_pos c1]
    · rw [if_neg c1] at hcb0 ⊢; rw [decide_eq_false c1, ZF, prev b hb, Zc]; by_cases c2 : 0 < b ∧ (pv (gB l b)).1 ≤ (pv (gB l (b - 1))).1
      · rw [decide_eq_true c2, ZJ, if_pos c2]
      · rw [if_neg c2] at hcb0; exact absurd rfl hcb0
end
noncomputable def ZHd (fv : Nat) : Option (Rat × Int) :=
 bnd (ZCa .u64 ((fv : Int)) ((52 : Int))) fun a =>
 ifb ((IntKind.i64.wrap (ZDa .u64 a ((2047 : Int)))) == ((2047 : Int)))
 (bnd (Zfc ((0 : Int))) fun d =>
 some ((d,(1 : Int))))
 (bnd (ifb (decide ((0 : Int) < IntKind.i64.wrap (ZDa .u64 a ((2047 : Int)))))
 (some ((IntKind.i64.wrap (ZDa .u64 a ((2047 : Int))),IntKind.u64.wrap ((ZDa .u64 ((fv : Int)) ((4503599627370495 : Int))) + ((4503599627370496 : Int))))))
 (some (((1 : Int),ZDa .u64 ((fv : Int)) ((4503599627370495 : Int))))))
 (fun (p : Int × Int)=>match p with
 | (b,c) =>
 (ifb (decide ((1075 : Int) ≤ b))
 (bnd (ZCa .u64 ((fv : Int)) ((63 : Int))) fun e =>
 bnd (ZNc c) fun f =>
 bnd (chk .i64 (b - ((1075 : Int)))) fun g =>
 bnd (ZAc f g) fun h =>
 bnd (Zqc ([(1 : Int)])) fun i =>
 bnd (ZAb (e == ((1 : Int))) h i) fun j =>
 some ((j,(0 : Int))))
 (bnd (ZCa .u64 ((fv : Int)) ((63 : Int))) fun k =>
 bnd (ZNc c) fun l =>
 bnd (chk .i64 (((1075 : Int)) - b)) fun m =>
 bnd (Zqc ([(1 : Int)])) fun n =>
 bnd (ZAc n m) fun o =>
 bnd (ZAb (k == ((1 : Int))) l o) fun q =>
 some ((q,(0 : Int)))))))
noncomputable def ZDe (fv : Nat) : Option (Rat × Bool) :=
 bnd (ZBd fv) fun b =>
 bnd (ZHd b) fun a =>
 some ((a.1,a.2 == ((0 : Int))))
set_option maxRecDepth 100000
theorem Zbo {r : Nat} (h : Zve r) : ∃ s M, M < 4503599627370496 ∧ r = dW s 2047 M := by
  obtain ⟨h1, h2⟩ := h; refine ⟨decide (9223372036854775808 ≤ r), r % 9223372036854775808 - 9218868437227405312, by omega, ?_⟩; unfold dW; by_cases hs : 9223372036854775808 ≤ r
  · rw [decide_eq_true hs, if_pos rfl]; omega
  · rw [decide_eq_false hs, if_neg (by decide)]; omega
theorem Z0q (g : Bool) : FloatKind.f64.encode (.infinity g) = dW g 2047 0 := by cases g <;> decide
theorem Zul (s : Bool) {M : Nat} (h3 : M < 4503599627370496) : ZHd (dW s 2047 M) = some (0, 1) := by
  obtain ⟨q, q1, q2, _⟩ := ZHi (s := s) (E := 2047) (M := M) (by omega) h3; have w : (IntKind.i64.wrap ((2047 : Nat) : Int) == (2047 : Int)) = true := by decide
  have r0 : Zfc 0 = some 0 := rfl; unfold ZHd; rw [q1, Zc, q2, w, ZJ, r0, Zc]
theorem Zvh {r : Nat} (h : Zve r) : ZHd r = some (0, 1) := by
  obtain ⟨s, M, h3, rfl⟩ := Zbo h; exact Zul s h3
theorem Zcq {y r : Nat} {z : Rat × Int} (h : as64 y r) (e : ZHd y = some z) : ZHd r = some z := by
  rcases h with rfl | ⟨rfl, h | ⟨g, rfl⟩⟩
  · exact e
  · rw [Zvh h, ← e, Zvh ZXe]
  · rw [Z0q, Zul g (by omega), ← e, Zvh ZXe]
noncomputable def Z6a (fv : Nat) : Option (Rat) :=
 bnd (ZDe fv) fun a =>
 some a.1
set_option maxRecDepth 100000
section
variable {s : Bool} {E M : Nat} (h1 : 1 ≤ E) (h2 : E ≤ 2046) (h3 : M < 4503599627370496)
include h1 h2 h3
theorem d_sign : ZCa .u64 ((dW s E M : Nat) : Int) 63 = some (if s then 1 else 0) := by
  have hl := ZNe (s := s) (E := E) (M := M) (by omega) h3; unfold ZCa; have e : (dW s E M : Int) / 9223372036854775808 = if s then 1 else 0 := by
    unfold dW
    cases s
    · simp only [Bool.false_eq_true, if_false]; omega
    · simp only [if_true]; omega
  rw [if_neg (by omega), show min (63 : Int).toNat IntKind.u64.bits = 63 by decide, Int.fdiv_eq_ediv_of_nonneg _ (by decide), show (2 : Int) ^ 63 = 9223372036854775808 by decide, e]
theorem d_frac : ZDa .u64 ((dW s E M : Nat) : Int) 4503599627370495 = (M : Int) := by
  have hl := ZNe (s := s) (E := E) (M := M) (by omega) h3; unfold ZDa; have hq : dW s E M % 2 ^ 52 = M := by
    rw [show (2 : Nat) ^ 52 = 4503599627370496 by decide]; unfold dW
    cases s
    · simp only [Bool.false_eq_true, if_false]; omega
    · simp only [if_true]; omega
  generalize dW s E M = q at *; have h1 : (BitVec.ofInt IntKind.u64.bits (q : Int) &&& BitVec.ofInt IntKind.u64.bits 4503599627370495).toNat = M := by
    rw [BitVec.toNat_and, BitVec.toNat_ofInt, BitVec.toNat_ofInt]; show ((q : Int) % 18446744073709551616).toNat &&& (2 ^ 52 - 1) = M; rw [show ((q : Int) % 18446744073709551616).toNat = q by omega, Z9g, hq]
  rw [h1]; exact Z9b (Zuc.2 ⟨by omega, by omega⟩)
theorem Z7q : ZHd (dW s E M) = some (dV s E M, 0) := by
  obtain ⟨q, q1, q2, _⟩ := ZHi (s := s) (E := E) (M := M) (by omega) h3; have w : IntKind.i64.wrap (E : Int) = E := Z9b (ZFb.2 ⟨by omega, by omega⟩); have ne : ((E : Int) == (2047 : Int)) = false := by rw [beq_eq_false_iff_ne]; omega
  have w2 : IntKind.u64.wrap ((M : Int) + 4503599627370496) = ((4503599627370496 + M : Nat) : Int) := by
    rw [Z9b (Zuc.2 ⟨by omega, by omega⟩)]; omega
  unfold ZHd; rw [q1, Zc, q2, w, ne, ZF, show decide ((0 : Int) < (E : Int)) = true from decide_eq_true (by omega), ZJ, d_frac h1 h2 h3, w2, Zc]; simp only; rw [d_sign h1 h2 h3]; have hb : bl (4503599627370496 + M) ≤ 53 := ZJb (by rw [show (2 : Nat) ^ 53 = 9007199254740992 by decide]; omega); have sb : ((if s then (1 : Int) else 0) == 1) = s := by cases s <;> rfl
  have rn : ZNc ((4503599627370496 + M : Nat) : Int) = some (4503599627370496 + M) := rfl; unfold dV; generalize 4503599627370496 + M = n at *; by_cases hE : 1075 ≤ E
  · have k1 : ((E : Int) - 1075).toNat = E - 1075 := by omega
    have l1 : ZAc n ((E : Int) - 1075) = some (n * 2 ^ (E - 1075)) := by
      unfold ZAc; rw [if_pos ⟨ZWb (by omega), by omega, by omega⟩, k1]
    have hb2 : bl (n * 2 ^ (E - 1075)) ≤ 2000 := by
      have := ZMb n (2 ^ (E - 1075)); have h4 : bl (2 ^ (E - 1075)) ≤ E - 1075 + 1 := ZJb (Nat.pow_lt_pow_right (by omega) (by omega)); omega
    have f1 : ZAb s (n * 2 ^ (E - 1075)) 1 = some (mkRat (sI s (n * 2 ^ (E - 1075))) 1) := by
      unfold ZAb; rw [if_pos ⟨ZIc (by omega), ZIc (by decide), by omega⟩]; rfl
    rw [show decide ((1075 : Int) ≤ (E : Int)) = true from decide_eq_true (by omega), ZJ, Zc, rn, Zc, Zda (by omega) (by omega), Zc, l1, Zc, ZSg, Zc, sb, f1, Zc, if_pos hE, mkRat_one]
  · have k1 : (1075 : Int) - (E : Int) = ((1075 - E : Nat) : Int) := by omega
    have l1 : ZAc 1 ((1075 - E : Nat) : Int) = some (2 ^ (1075 - E)) := by
      unfold ZAc; rw [if_pos ⟨ZWb (by decide), by omega, by omega⟩, Int.toNat_natCast, Nat.one_mul]
    have hb2 : bl (2 ^ (1075 - E)) ≤ 2000 := Nat.le_trans (ZJb (Nat.pow_lt_pow_right (a := 2) (n := 1076 - E) (by omega) (by omega))) (by omega); have hz : 2 ^ (1075 - E) ≠ 0 := Nat.ne_of_gt (Nat.two_pow_pos _); have f1 : ZAb s n (2 ^ (1075 - E)) = some (mkRat (sI s n) (2 ^ (1075 - E))) := by
      unfold ZAb; rw [if_pos ⟨ZIc (by omega), ZIc (by omega), hz⟩]; rfl
    rw [show decide ((1075 : Int) ≤ (E : Int)) = false from decide_eq_false (by omega), ZF, Zc, rn, Zc, Zda (by omega) (by omega), Zc, k1, ZSg, Zc, l1, Zc, sb, f1, Zc, if_neg hE]
end
theorem rfloat0 (s : Bool) : ZHd (if s then 9223372036854775808 else 0) = some (0, 0) := by
  cases s <;> decide +kernel
theorem ZPk (fv : Nat) : ZDe fv = some ((X32 fv).1, (X32 fv).2 == 0) := by
  have o0 : ((0 : Int) == 0) = true := rfl; have o1 : ((1 : Int) == 0) = false := rfl
  cases h : FloatKind.f32.decode fv with
  | number s m e =>
    obtain ⟨h1, h2, h3⟩ := ZXj h; unfold ZDe X32; rw [h, ZHk h]; by_cases h0 : m = 0
    · subst h0; rw [ZRm h, Zc, rfloat0, Zc]; simp only [if_true]
    · obtain ⟨a, b, c⟩ := d_ok h0 h1 h2 h3; rw [ZVl h0 h1 h2 h3 h, Zc, Z7q a b c, Zc]; simp only [if_neg h0]
  | infinity g =>
    unfold ZDe X32 ZBd; rw [h, Zc, Zvh ZXe, Zc]
  | nan g f =>
    unfold ZDe X32 ZBd; rw [h, Zc, Zvh ZXe, Zc]
theorem ZMk (fv : Nat) : Z6a fv = some (X32 fv).1 := by
  unfold Z6a; rw [ZPk, Zc]
noncomputable def Z0j (r : (Rat × (List (Rat × Rat)))) : Option (Int) :=
 ifb (decide ((10 : Int) < (r.2.length : Int)))
 (some ((4 : Int)))
 (bnd (ZZc r.1) fun c =>
 ifb (decide (c < (0 : Int)))
 (some ((1 : Int)))
 (bnd (bnd (Zea (fun s : Int=>match s with
 | a =>
 (ifb (decide (a < (r.2.length : Int)))
 (bnd (idx r.2 a) fun b =>
 bnd (bnd (ZZc b.1) fun d =>
 ifb (decide (d < (0 : Int)))
 (some true)
 (bnd (ZZc b.2) fun e =>
 some (decide (e ≤ (0 : Int)))))
 (fun (f : Bool) =>
 (ifb (f)
 (some (.inr ((.inl ((1 : Int))))))
 (bnd (ifb (decide ((0 : Int) < a))
 (bnd (chk .i64 (a - ((1 : Int)))) fun g =>
 bnd (idx r.2 g) fun h =>
 bnd (Zed b.2 h.2) fun i =>
 some (decide (i ≤ (0 : Int))))
 (some false))
 (fun (j : Bool) =>
 (ifb (j)
 (some (.inr ((.inl ((7 : Int))))))
 (bnd (chk .i64 (a + ((1 : Int)))) fun k =>
 some (.inl k))))))))
 (some (.inr ((.inr (()))))))) Zta ((0 : Int)))
 (fun (p : (Int) ⊕ (Unit))=>match p with
 | .inl l =>
 (some ((.inr l)))
 | .inr (()) =>
 (some ((.inl (()))))))
 (fun (p : (Unit) ⊕ (Int))=>match p with
 | .inl (()) =>
 (some ((0 : Int)))
 | .inr m =>
 (some m))))
noncomputable def Z6k (t : Rat) (fw : Rat) : Option (Rat × Rat) :=
 bnd (ZKf fw t) fun a =>
 bnd (ZKf a a) fun b =>
 bnd (bnd (ZEd ((1 : Int))) fun d =>
 bnd (Zwd b d) fun e =>
 some e)
 (fun (c : Rat) =>
 (bnd (Zpe b c) fun f =>
 bnd (Zpe a c) fun g =>
 some ((f.1,g.1))))
noncomputable def Z7j (r : (Rat × (List (Rat × Rat)))) (fw : Rat) : Option (Rat × Rat) :=
 bnd (bnd (Zea (fun s : Rat × Rat × Int=>match s with
 | (c,d,a) =>
 (ifb (decide (a < (r.2.length : Int)))
 (bnd (idx r.2 a) fun b =>
 bnd (Z6k b.2 fw) fun e =>
 bnd (ZKf e.1 b.1) fun f =>
 bnd (Zwd c f) fun g =>
 bnd (ZKf e.2 b.1) fun h =>
 bnd (Zwd d h) fun i =>
 bnd (chk .i64 (a + ((1 : Int)))) fun j =>
 some (.inl ((g,i,j))))
 (some (.inr ((c,d)))))) Zta ((r.1,(0 : Rat),(0 : Int))))
 (fun (p : Rat × Rat)=>match p with
 | (k,l) =>
 (some ((k,l)))))
 (fun (p : Rat × Rat)=>match p with
 | (m,n) =>
 (some ((m,n))))
noncomputable def ZNk (r : (Rat × (List (Rat × Rat)))) (fw : Rat) : Option (Rat × Rat × Int) :=
 bnd (Z0j ((r.1,r.2))) fun a =>
 ifb (a != ((0 : Int)))
 (some (((0 : Rat),(0 : Rat),a)))
 (bnd (ZZc fw) fun c =>
 ifb (decide (c < (0 : Int)))
 (some (((0 : Rat),(0 : Rat),(1 : Int))))
 (bnd (Z7j ((r.1,r.2)) fw) fun b =>
 some ((b.1,b.2,(0 : Int)))))
noncomputable def Zvf  : Option (Bool) :=
 bnd (ZEd ((1 : Int))) fun c =>
 bnd (ZEd ((2 : Int))) fun d =>
 bnd (ZEd ((1 : Int))) fun e =>
 bnd (ZEd ((1 : Int))) fun f =>
 bnd (ZNk ((c,[(d,e)])) f) fun a =>
 bnd (ZEd ((4 : Int))) fun g =>
 bnd (ZYe ([((0 : Nat),(1084227584 : Nat)),((1092616192 : Nat),(1073741824 : Nat)),((1101004800 : Nat),(1073741824 : Nat)),((1106247680 : Nat),(1092616192 : Nat))]) g) fun b =>
 bnd (ifb (a.2.2 == ((0 : Int)))
 (ifb (b.2 == ((0 : Int)))
 (bnd (Z3d a.1) fun h =>
 ifb (h == (([50] : List UInt8)))
 (bnd (Z3d a.2.1) fun i =>
 ifb (i == (([49] : List UInt8)))
 (bnd (Z3d b.1) fun j =>
 some (j == (([52,53,47,50] : List UInt8))))
 (some false))
 (some false))
 (some false))
 (some false))
 (fun (k : Bool) =>
 (some k))
set_option maxRecDepth 100000 in
theorem Ztq : Zvf = some true := by
  unfold Zvf; rw [ZWp]; decide +kernel
noncomputable def Zqh (l : (List (Rat × Rat))) : Option (Rat × Int) :=
 ifb (decide ((l.length : Int) < (2 : Int)))
 (some (((0 : Rat),(5 : Int))))
 (bnd (bnd (idx l ((0 : Int))) fun c =>
 bnd (idx l ((1 : Int))) fun d =>
 bnd (Zqe ((c.1,c.2)) ((d.1,d.2))) fun h =>
 some h)
 (fun (i : Rat) =>
 (bnd (bnd (Zea (fun s : Rat × Int=>match s with
 | (b,a) =>
 (ifb (decide (a < (l.length : Int)))
 (bnd (bnd (chk .i64 (a - ((1 : Int)))) fun j =>
 bnd (idx l j) fun e =>
 bnd (idx l a) fun f =>
 bnd (Zqe ((e.1,e.2)) ((f.1,f.2))) fun k =>
 some k)
 (fun (g : Rat) =>
 (bnd (Zed g b) fun m =>
 bnd (ifb (decide ((0 : Int) < m))
 (some g)
 (some b))
 (fun (n : Rat) =>
 (bnd (chk .i64 (a + ((1 : Int)))) fun o =>
 some (.inl ((n,o))))))))
 (some (.inr b)))) Zta ((i,(2 : Int))))
 (fun (p : Rat) =>
 (some p)))
 (fun (q : Rat) =>
 (some ((q,(0 : Int))))))))
noncomputable def Zxf (l : (List (Nat × Nat))) : Option (Rat × Int) :=
 bnd (Zwe l) fun a =>
 ifb (a.2 != ((0 : Int)))
 (some (((0 : Rat),a.2)))
 (bnd (Zqh a.1) fun b =>
 some ((b.1,b.2)))
noncomputable def ZYg (l : (List (Nat × Nat))) : Option ((List (Nat × Nat))) :=
 bnd (mk 8 ((l.length : Int)) ((l.length : Int))) fun g =>
 bnd (bnd (Zea (fun s : (List (Nat × Nat)) × Int=>match s with
 | (b,a) =>
 (ifb (decide (a < (l.length : Int)))
 (bnd (idx l a) fun c =>
 bnd (idx b a) fun h =>
 bnd (chk .i64 (a + ((1 : Int)))) fun d =>
 some (.inl (((b.set (a).toNat ((c.1,c.2))),d))))
 (some (.inr b)))) Zta (((List.replicate ((l.length : Int)).toNat (((0 : Nat),(0 : Nat)))),(0 : Int))))
 (fun (e : (List (Nat × Nat))) =>
 (some e)))
 (fun (f : (List (Nat × Nat))) =>
 (some f))
noncomputable def ZRe (l : (List (Nat × Nat))) : Option ((List (Nat × Nat))) :=
 bnd (bnd (Zea (fun s : Int × Int=>match s with
 | (b,a) =>
 (ifb (decide (a < (l.length : Int)))
 (bnd (idx l a) fun c =>
 bnd (Z6a c.2) fun d =>
 bnd (idx l b) fun e =>
 bnd (Z6a e.2) fun f =>
 bnd (Zzd d f) fun g =>
 bnd (ifb (decide (g < (0 : Int)))
 (some a)
 (some b))
 (fun (h : Int) =>
 (bnd (chk .i64 (a + ((1 : Int)))) fun i =>
 some (.inl ((h,i))))))
 (some (.inr b)))) Zta (((0 : Int),(1 : Int))))
 (fun (j : Int) =>
 (some j)))
 (fun (k : Int) =>
 (bnd (Zrb l k ((l.length : Int))) fun m =>
 some m))
noncomputable def ZCg (l : (List (Nat × Nat))) : Option ((Rat × Rat × Rat × Rat)) :=
 bnd (ZRe l) fun a =>
 bnd (bnd (Zea (fun s : Int × Int=>match s with
 | (c,b) =>
 (ifb (decide (b < (a.length : Int)))
 (bnd (idx a b) fun e =>
 bnd (Z6a e.2) fun f =>
 bnd (idx a c) fun g =>
 bnd (Z6a g.2) fun h =>
 bnd (Zzd f h) fun i =>
 bnd (ifb (decide ((0 : Int) < i))
 (some b)
 (some c))
 (fun (j : Int) =>
 (bnd (chk .i64 (b + ((1 : Int)))) fun k =>
 some (.inl ((j,k))))))
 (some (.inr c)))) Zta (((0 : Int),(1 : Int))))
 (fun (m : Int) =>
 (some m)))
 (fun (d : Int) =>
 (bnd (idx a ((0 : Int))) fun n =>
 bnd (Z6a n.2) fun o =>
 bnd (idx a ((0 : Int))) fun p =>
 bnd (Z6a p.1) fun q =>
 bnd (idx a d) fun r =>
 bnd (Z6a r.2) fun t =>
 bnd (idx a d) fun u =>
 bnd (Z6a u.1) fun v =>
 some ((o,q,t,v))))
noncomputable def ZUg (l : (List (Nat × Nat))) (t : Rat) : Option (Rat × Int) :=
 bnd (ZRe l) fun b =>
 bnd (bnd (Zea (fun s : Int=>match s with
 | a =>
 (ifb (decide (a < (b.length : Int)))
 (bnd (idx b a) fun f =>
 bnd (Z6a f.2) fun c =>
 bnd (Zzd c t) fun g =>
 ifb (decide (g < (0 : Int)))
 (bnd (chk .i64 (a + ((1 : Int)))) fun h =>
 some (.inl h))
 (ifb (a == ((0 : Int)))
 (bnd (idx b ((0 : Int))) fun i =>
 bnd (Z6a i.1) fun j =>
 some (.inr ((.inl ((j,(0 : Int)))))))
 (bnd (chk .i64 (a - ((1 : Int)))) fun k =>
 bnd (idx b k) fun m =>
 bnd (Z6a m.2) fun d =>
 bnd (chk .i64 (a - ((1 : Int)))) fun n =>
 bnd (idx b n) fun o =>
 bnd (Z6a o.1) fun e =>
 bnd (idx b a) fun q =>
 bnd (Z6a q.1) fun r =>
 bnd (bnd (Zcc t d) fun u =>
 bnd (Zcc c d) fun v =>
 bnd (ZFe u v) fun w =>
 some w)
 (fun (x : Rat) =>
 (bnd (Zcc r e) fun y =>
 bnd (ZKe x y) fun z =>
 bnd (Z7d e z) fun A =>
 some (.inr ((.inl ((A,(0 : Int)))))))))))
 (some (.inr ((.inr (()))))))) Zta ((0 : Int)))
 (fun (p : (Rat × Int) ⊕ (Unit))=>match p with
 | .inl ((B,C)) =>
 (some ((.inr ((B,C)))))
 | .inr (()) =>
 (some ((.inl (()))))))
 (fun (p : (Unit) ⊕ (Rat × Int))=>match p with
 | .inl (()) =>
 (bnd (Zfc ((0 : Int))) fun D =>
 some ((D,(5 : Int))))
 | .inr ((E,F)) =>
 (some ((E,F))))
noncomputable def ZJg (l : (List (Nat × Nat))) : Option (Rat × Int) :=
 bnd (ZRe l) fun b =>
 ifb (decide ((b.length : Int) < (2 : Int)))
 (bnd (Zfc ((0 : Int))) fun e =>
 some ((e,(5 : Int))))
 (bnd (Zfc ((0 : Int))) fun f =>
 bnd (bnd (Zea (fun s : Rat × Int=>match s with
 | (c,a) =>
 (ifb (decide (a < (b.length : Int)))
 (bnd (bnd (idx b a) fun g =>
 bnd (Z6a g.2) fun h =>
 bnd (chk .i64 (a - ((1 : Int)))) fun i =>
 bnd (idx b i) fun j =>
 bnd (Z6a j.2) fun k =>
 bnd (Zcc h k) fun m =>
 bnd (idx b a) fun n =>
 bnd (Z6a n.1) fun o =>
 bnd (chk .i64 (a - ((1 : Int)))) fun p =>
 bnd (idx b p) fun q =>
 bnd (Z6a q.1) fun r =>
 bnd (Zcc o r) fun t =>
 bnd (ZFe m t) fun u =>
 some u)
 (fun (d : Rat) =>
 (bnd (ifb (a == ((1 : Int)))
 (some true)
 (bnd (Zzd d c) fun v =>
 some (decide ((0 : Int) < v))))
 (fun (w : Bool) =>
 (bnd (ifb (w)
 (some d)
 (some c))
 (fun (x : Rat) =>
 (bnd (chk .i64 (a + ((1 : Int)))) fun y =>
 some (.inl ((x,y))))))))))
 (some (.inr c)))) Zta ((f,(1 : Int))))
 (fun (z : Rat) =>
 (some z)))
 (fun (A : Rat) =>
 (some ((A,(0 : Int))))))
noncomputable def Z7g (l : (List (Nat × Nat))) : Option (Int) :=
 bnd (ifb (decide ((l.length : Int) < (2 : Int)))
 (some true)
 (some (decide ((1000 : Int) < (l.length : Int)))))
 (fun (c : Bool) =>
 (ifb (c)
 (some ((4 : Int)))
 (bnd (bnd (Zea (fun s : Int=>match s with
 | a =>
 (ifb (decide (a < (l.length : Int)))
 (bnd (idx l a) fun d =>
 bnd (ZDe d.1) fun b =>
 bnd (idx l a) fun e =>
 bnd (ZDe e.2) fun f =>
 bnd (ifb (!(b.2))
 (some true)
 (ifb (!(f.2))
 (some true)
 (bnd (Z8e b.1) fun g =>
 some (decide (g < (0 : Int))))))
 (fun (h : Bool) =>
 (ifb (h)
 (some (.inr ((.inl ((1 : Int))))))
 (bnd (ifb (decide ((0 : Int) < a))
 (bnd (chk .i64 (a - ((1 : Int)))) fun i =>
 bnd (idx l i) fun j =>
 bnd (Z6a j.1) fun k =>
 bnd (Zzd b.1 k) fun m =>
 some (decide (m ≤ (0 : Int))))
 (some false))
 (fun (n : Bool) =>
 (ifb (n)
 (some (.inr ((.inl ((7 : Int))))))
 (bnd (chk .i64 (a + ((1 : Int)))) fun o =>
 some (.inl o))))))))
 (some (.inr ((.inr (()))))))) Zta ((0 : Int)))
 (fun (p : (Int) ⊕ (Unit))=>match p with
 | .inl q =>
 (some ((.inr q)))
 | .inr (()) =>
 (some ((.inl (()))))))
 (fun (p : (Unit) ⊕ (Int))=>match p with
 | .inl (()) =>
 (some ((0 : Int)))
 | .inr r =>
 (some r)))))
noncomputable def ZTi (l : (List (Nat × Nat))) (torque : (Int × Int)) : Option (Bool) :=
 ifb (decide ((60 : Int) < (l.length : Int)))
 (bnd (Zvf ) fun i =>
 some i)
 (bnd (ZYg l) fun f =>
 bnd (ZCf f) fun a =>
 bnd (Zsh ((torque.1,torque.2))) fun j =>
 bnd (ZYe f j) fun b =>
 bnd (Zxf f) fun c =>
 bnd (Z7g l) fun d =>
 ifb (d != ((0 : Int)))
 (bnd (ifb (a.2 == d)
 (ifb (b.2 == d)
 (ifb (c.2 == d)
 (bnd (Zld a.1.1) fun k =>
 ifb (k)
 (bnd (Zld a.1.2.1) fun m =>
 ifb (m)
 (bnd (Zld a.1.2.2.1) fun n =>
 ifb (n)
 (bnd (Zld a.1.2.2.2) fun o =>
 ifb (o)
 (bnd (Zld b.1) fun p =>
 ifb (p)
 (bnd (Zld c.1) fun q =>
 ifb (q)
 (bnd (Zvf ) fun r =>
 some r)
 (some false))
 (some false))
 (some false))
 (some false))
 (some false))
 (some false))
 (some false))
 (some false))
 (some false))
 (fun (s : Bool) =>
 (some s)))
 (bnd (ZCg l) fun e =>
 bnd (rofF ((torque.1,torque.2))) fun t =>
 bnd (ZUg l t) fun g =>
 bnd (ZJg l) fun h =>
 bnd (ifb (a.2 == ((0 : Int)))
 (bnd (ZLd a.1.1 e.1) fun u =>
 ifb (u)
 (bnd (ZLd a.1.2.1 e.2.1) fun v =>
 ifb (v)
 (bnd (ZLd a.1.2.2.1 e.2.2.1) fun w =>
 ifb (w)
 (bnd (ZLd a.1.2.2.2 e.2.2.2) fun x =>
 ifb (x)
 (ifb (b.2 == g.2)
 (bnd (ZLd b.1 g.1) fun y =>
 ifb (y)
 (ifb (c.2 == h.2)
 (bnd (ZLd c.1 h.1) fun z =>
 ifb (z)
 (bnd (Zvf ) fun A =>
 some A)
 (some false))
 (some false))
 (some false))
 (some false))
 (some false))
 (some false))
 (some false))
 (some false))
 (some false))
 (fun (B : Bool) =>
 (some B))))
set_option maxRecDepth 100000
theorem set_at {α : Type} (A B : List α) (z v : α) : (A ++ z :: B).set A.length v = A ++ v :: B := by
  rw [List.set_append_right _ _ (Nat.le_refl _), Nat.sub_self]; rfl
theorem ZRn (l : List (Nat × Nat)) (hl : l.length ≤ 100) : ZYg l = some l := by
  unfold ZYg; have hm : mk 8 (l.length : Int) (l.length : Int) = some () := by unfold mk; rw [if_pos ⟨by omega, by omega, by omega, by omega⟩]
  rw [hm, Zc]; refine ZYa (y := l) (ZYa (y := l) (Zad (fun k => (l.take k ++ List.replicate (l.length - k) (0, 0), (k : Int))) l.length ?_ (by omega) (fun k hk => ?_) ?_) rfl) rfl
  · simp
  · have hlen : (l.take k ++ List.replicate (l.length - k) ((0 : Nat), (0 : Nat))).length = l.length := by simp; omega
    have e : l.length - k = (l.length - (k + 1)) + 1 := by omega
    have hs : (l.take k ++ List.replicate (l.length - k) ((0 : Nat), (0 : Nat))).set k l[k] = l.take (k + 1) ++ List.replicate (l.length - (k + 1)) (0, 0) := by
      have h1 : (l.take k).length = k := by rw [List.length_take]; omega
      have := set_at (l.take k) (List.replicate (l.length - (k + 1)) ((0 : Nat), (0 : Nat))) (0, 0) l[k]; rw [h1] at this; rw [e, List.replicate_succ, this, List.take_succ_eq_append_getElem hk, List.append_assoc]; rfl
    simp only; rw [decide_eq_true (by omega), ZJ, Zja hk, Zc, Zja (l := l.take k ++ List.replicate (l.length - k) ((0 : Nat), (0 : Nat))) (i := k) (by omega), Zc, Zda (by omega) (by omega), Zc, ← hs]; rfl
  · simp only; rw [decide_eq_false (by omega), ZF]; simp
theorem rsg6 (x : Rat) : Z8e x = some x.num.sign := rfl
section
variable {l : List (Nat × Nat)}
theorem Zdc {i : Nat} (h : i < l.length) : idx l (i : Int) = some (gB l i) := by rw [Zja h, Zwf h]
theorem rv1 {i : Nat} (h : i < l.length) : Z6a (gB l i).1 = some (gD (l.map pv) i).1 := by rw [ZMk, Zsd h]; rfl
theorem rv2 {i : Nat} (h : i < l.length) : Z6a (gB l i).2 = some (gD (l.map pv) i).2 := by rw [ZMk, Zsd h]; rfl
theorem zQ {i : Nat} (h : i < l.length) : sz 300 (gD (l.map pv) i).1 ∧ sz 300 (gD (l.map pv) i).2 := by rw [Zsd h]; exact ⟨ZRd _, ZRd _⟩
theorem ZTq (hl : l.length ≤ 60) : Z7g l = some (ZRc l) := by
  unfold Z7g ZRc; by_cases n2 : l.length < 2
  · rw [decide_eq_true (by omega), ZJ, Zc, ZJ, if_pos (.inl n2)]
  rw [decide_eq_false (by omega), ZF, decide_eq_false (by omega), Zc, ZF, if_neg (show ¬ (l.length < 2 ∨ 1000 < l.length) by omega)]; have test : ∀ p : Nat × Nat, (ifb (!((X32 p.1).2 == 0)) (some true) (ifb (!((X32 p.2).2 == 0)) (some true) (bnd (Z8e (X32 p.1).1) fun y => some (decide (y < 0))))) = some (decide (Z9e p)) := fun p => by
    by_cases k1 : (X32 p.1).2 = 0
    · rw [show (!((X32 p.1).2 == 0)) = false by simpa using k1, ZF]; by_cases k2 : (X32 p.2).2 = 0
      · rw [show (!((X32 p.2).2 == 0)) = false by simpa using k2, ZF, rsg6, Zc]; exact congrArg some (decide_eq_decide.2 ⟨fun k => .inr (.inr (ZDf.1 k)), fun k => ZDf.2 (by rcases k with k | k | k; exact absurd k1 k; exact absurd k2 k; exact k)⟩)
      · rw [show (!((X32 p.2).2 == 0)) = true by simpa using k2, ZJ, decide_eq_true (.inr (.inl k2))]
    · rw [show (!((X32 p.1).2 == 0)) = true by simpa using k1, ZJ, decide_eq_true (.inl k1)]
  refine ZYa (y := if cf (ckC l) 0 l.length ≠ 0 then .inr (cf (ckC l) 0 l.length) else .inl ()) (ZYa (Zlo (ckC l) l.length (by omega) (fun i hi => ?_) ?_) ?_) ?_
  · simp only; rw [decide_eq_true (by omega), ZJ, Zdc hi]; simp only [Zc]; rw [ZPk]; simp only [Zc]; rw [ZPk]; simp only [Zc]; rw [test, Zc]; by_cases c1 : Z9e (gB l i)
    · have e : ckC l i = 1 := by unfold ckC; rw [if_pos c1]
      rw [decide_eq_true c1, ZJ, e, if_pos (by decide)]
    · rw [decide_eq_false c1, ZF]; by_cases h0 : 0 < i
      · have e1 : (i : Int) - 1 = ((i - 1 : Nat) : Int) := by omega
        rw [decide_eq_true (by omega), ZJ, Zda (by omega) (by omega), Zc, e1, Zdc (by omega), Zc, ZMk, Zc, ZEf (ZRd _) (ZRd _) (by omega), Zc, le4, Zc]; by_cases c2 : (pv (gB l i)).1 ≤ (pv (gB l (i - 1))).1
        · have e : ckC l i = 7 := by unfold ckC; rw [if_neg c1, if_pos ⟨h0, c2⟩]
          rw [show decide ((X32 (gB l i).1).1 ≤ (X32 (gB l (i - 1)).1).1) = true from decide_eq_true c2, ZJ, e, if_pos (by decide)]
        · have e : ckC l i = 0 := by unfold ckC; rw [if_neg c1, if_neg (fun k => c2 k.2)]
          rw [show decide ((X32 (gB l i).1).1 ≤ (X32 (gB l (i - 1)).1).1) = false from decide_eq_false c2, ZF, e, if_neg (by decide), Zda (by omega) (by omega), Zc]
      · have e : ckC l i = 0 := by unfold ckC; rw [if_neg c1, if_neg (fun k => h0 k.1)]
        rw [decide_eq_false (by omega), ZF, Zc, ZF, e, if_neg (by decide), Zda (by omega) (by omega), Zc]
  · simp only; rw [decide_eq_false (by omega), ZF]
  · generalize cf (ckC l) 0 l.length = b; by_cases hb : b ≠ 0
    · rw [if_pos hb, if_pos hb]
    · rw [if_neg hb, if_neg hb]
  · generalize cf (ckC l) 0 l.length = b; by_cases hb : b ≠ 0
    · rw [if_pos hb]
    · rw [if_neg hb, Decidable.not_not.1 hb]
theorem Zgr (h2 : 2 ≤ l.length) (hl : l.length ≤ 60) : ZRe l = some (l.drop (loI (l.map pv) l.length)) := by
  unfold ZRe; have h1 : loI (l.map pv) 1 = 0 := by
    show (if (gD (l.map pv) 0).2 < (gD (l.map pv) 0).2 then 0 else 0) = 0; split <;> rfl
  refine ZYa (y := (loI (l.map pv) l.length : Int)) (ZYa (y := (loI (l.map pv) l.length : Int)) (Zad (fun k => ((loI (l.map pv) (k + 1) : Int), ((k + 1 : Nat) : Int))) (l.length - 1) ?_ (by omega) (fun k hk => ?_) ?_) rfl) ?_
  · show ((loI (l.map pv) 1 : Int), ((1 : Nat) : Int)) = _; rw [h1]; rfl
  · have hk1 : k + 1 < l.length := by omega
    have lo := (ZFf (l.map pv) (k + 1)).2.2 (by omega); have el : loI (l.map pv) (k + 2) = if (gD (l.map pv) (k + 1)).2 < (gD (l.map pv) (loI (l.map pv) (k + 1))).2 then k + 1 else loI (l.map pv) (k + 1) := rfl; simp only; rw [decide_eq_true (by omega), ZJ, Zdc hk1, Zc, rv2 hk1, Zc, Zdc (by omega), Zc, rv2 (by omega), Zc, ZEf (zQ hk1).2 (zQ (by omega)).2 (by omega), Zc, lt4]; refine ZYa (y := (loI (l.map pv) (k + 2) : Int)) ?_ ?_
    · rw [el]; by_cases h : (gD (l.map pv) (k + 1)).2 < (gD (l.map pv) (loI (l.map pv) (k + 1))).2
      · rw [decide_eq_true h, ZJ, if_pos h]
      · rw [decide_eq_false h, ZF, if_neg h]
    rw [Zda (by omega) (by omega), Zc]; rfl
  · simp only; rw [decide_eq_false (by omega), ZF, show l.length - 1 + 1 = l.length by omega]
  · have lo := (ZFf (l.map pv) l.length).2.1; have ec : Zrb l (loI (l.map pv) l.length : Int) (l.length : Int) = some (l.drop (loI (l.map pv) l.length)) := by
      unfold Zrb; rw [if_pos ⟨by omega, by omega, by omega⟩, Int.toNat_natCast, Int.toNat_natCast, List.take_length]
    rw [ec, Zc]
end
def slD (D : List PT) (i : Nat) : Rat := ((gD D i).2 - (gD D (i - 1)).2) / ((gD D i).1 - (gD D (i - 1)).1)
def bs (D : List PT) : Nat → Rat
  | 0 => slD D 1
  | k + 1 => if bs D k < slD D (k + 2) then slD D (k + 2) else bs D k
def Zff (D : List PT) : Rat × Int := if D.length < 2 then (0, 5) else (bs D (D.length - 2), 0)
section
variable {D : List PT} (R : Rise D)
include R
theorem Z9i {i : Nat} (h0 : 0 < i) (h : i < D.length) : sz 1300 (slD D i) := by
  have zp := R.szs (i - 1) (by omega); have zq := R.szs i h; exact (Z6f (ZLc zq.2 zp.2) (ZLc zq.1 zp.1)).mono (by omega)
theorem ZBi : ∀ k, k + 1 < D.length → sz 1300 (bs D k)
  | 0, h => Z9i R (by omega) h
  | k + 1, h => by
    have a := ZBi k (by omega)
    have b := Z9i R (i := k + 2) (by omega) h
    unfold bs
    split
    · exact b
    · exact a
theorem Zyo : sz 1300 (Zff D).1 := by
  unfold Zff; by_cases h : D.length < 2
  · rw [if_pos h]; exact ZLh.mono (by omega)
  · rw [if_neg h]; exact ZBi R _ (by omega)
theorem Zkl {i : Nat} (h : i + 1 < D.length) : Zqe ((gD D i).1, (gD D i).2) ((gD D (i + 1)).1, (gD D (i + 1)).2) = some (slD D (i + 1)) := by
  have zp := R.szs i (by omega); have zq := R.szs (i + 1) h; have tt := R.time i (i + 1) (by omega) h; unfold Zqe; rw [ZIh zq.2 zp.2 (by omega), Zc, ZIh zq.1 zp.1 (by omega), Zc, Z5k (ZLc zq.2 zp.2) (ZLc zq.1 zp.1) (by omega) (by grind), Zc]; rfl
theorem Zyq : Zqh D = some (Zff D) := by
  have h60 := R.n40; unfold Zqh Zff; by_cases h : D.length < 2
  · rw [decide_eq_true (by omega), ZJ, if_pos h]
  rw [decide_eq_false (by omega), ZF, if_neg h, show idx D (0 : Int) = some (gD D 0) from ZXc R (i := 0) (by omega), Zc, show idx D (1 : Int) = some (gD D 1) from ZXc R (i := 1) (by omega), Zc, show Zqe ((gD D 0).1, (gD D 0).2) ((gD D 1).1, (gD D 1).2) = some (slD D 1) from Zkl R (i := 0) (by omega), Zc, Zc]; refine ZYa (y := bs D (D.length - 2)) (ZYa (y := bs D (D.length - 2)) (Zad (fun k => (bs D k, ((k + 2 : Nat) : Int))) (D.length - 2) rfl (by omega) (fun k hk => ?_) ?_) rfl) rfl
  · have e1 : ((k + 2 : Nat) : Int) - 1 = ((k + 1 : Nat) : Int) := by omega
    have el : bs D (k + 1) = if bs D k < slD D (k + 2) then slD D (k + 2) else bs D k := rfl; simp only; rw [decide_eq_true (by omega), ZJ, Zda (by omega) (by omega), Zc, e1, ZXc R (by omega), Zc, ZXc R (by omega), Zc, Zkl R (by omega), Zc, Zc, Zhf (Z9i R (i := k + 2) (by omega) (by omega)) (ZBi R k (by omega)) (by omega), Zc, gt4]; refine ZYa (y := bs D (k + 1)) ?_ ?_
    · rw [el]; by_cases hh : bs D k < slD D (k + 2)
      · rw [decide_eq_true hh, ZJ, if_pos hh]
      · rw [decide_eq_false hh, ZF, if_neg hh]
    rw [Zda (by omega) (by omega), Zc]; rfl
  · simp only; rw [decide_eq_false (by omega), ZF]
end
section
variable {l r : List (Nat × Nat)} (hr : ZRe l = some r) (R : Rise (r.map pv))
include hr R
theorem r_len : r.length ≤ 60 ∧ 0 < r.length := by
  have a := R.n40; have b := R.n0; rw [List.length_map] at a b; exact ⟨a, b⟩
theorem ZBp : ZCg l = some ((gD (r.map pv) 0).2, (gD (r.map pv) 0).1, (gD (r.map pv) (hiI (r.map pv) r.length)).2, (gD (r.map pv) (hiI (r.map pv) r.length)).1) := by
  obtain ⟨h60, h0⟩ := r_len hr R; have h1 : hiI (r.map pv) 1 = 0 := by
    show (if (gD (r.map pv) 0).2 < (gD (r.map pv) 0).2 then 0 else 0) = 0; split <;> rfl
  unfold ZCg; rw [hr, Zc]; refine ZYa (y := (hiI (r.map pv) r.length : Int)) (ZYa (y := (hiI (r.map pv) r.length : Int)) (Zad (fun k => ((hiI (r.map pv) (k + 1) : Int), ((k + 1 : Nat) : Int))) (r.length - 1) ?_ (by omega) (fun k hk => ?_) ?_) rfl) ?_
  · show ((hiI (r.map pv) 1 : Int), ((1 : Nat) : Int)) = _; rw [h1]; rfl
  · have hk1 : k + 1 < r.length := by omega
    have lo := (Zwh (r.map pv) (k + 1)).2.2 (by omega); have el : hiI (r.map pv) (k + 2) = if (gD (r.map pv) (hiI (r.map pv) (k + 1))).2 < (gD (r.map pv) (k + 1)).2 then k + 1 else hiI (r.map pv) (k + 1) := rfl; simp only; rw [decide_eq_true (by omega), ZJ, Zdc hk1, Zc, rv2 hk1, Zc, Zdc (by omega), Zc, rv2 (by omega), Zc, ZEf (zQ hk1).2 (zQ (by omega)).2 (by omega), Zc, gt4]; refine ZYa (y := (hiI (r.map pv) (k + 2) : Int)) ?_ ?_
    · rw [el]; by_cases h : (gD (r.map pv) (hiI (r.map pv) (k + 1))).2 < (gD (r.map pv) (k + 1)).2
      · rw [decide_eq_true h, ZJ, if_pos h]
      · rw [decide_eq_false h, ZF, if_neg h]
    rw [Zda (by omega) (by omega), Zc]; rfl
  · simp only; rw [decide_eq_false (by omega), ZF, show r.length - 1 + 1 = r.length by omega]
  · have hh := (Zwh (r.map pv) r.length).2.2 h0; rw [show idx r (0 : Int) = some (gB r 0) from Zdc h0]; simp only [Zc]; rw [Zdc hh]; simp only [Zc]; rw [rv2 h0]; simp only [Zc]; rw [rv1 h0]; simp only [Zc]; rw [rv2 hh]; simp only [Zc]; rw [rv1 hh]; simp only [Zc]
theorem Zeo {t : Rat} (zt : sz 1000 t) : ZUg l t = some (Ztf (r.map pv) t) := by
  obtain ⟨h60, h0⟩ := r_len hr R; have hlen : (r.map pv).length = r.length := List.length_map ..; have hkl := ZEg (r.map pv) t; unfold ZUg Ztf; rw [hr, Zc]; have step : ∀ k, k < r.length → k < kR (r.map pv) t → decide ((gD (r.map pv) k).2 < t) = true := fun k _ h => decide_eq_true (ZCh h); by_cases hc : kR (r.map pv) t = (r.map pv).length
  · rw [if_pos hc]; have w0 : Zfc 0 = some 0 := rfl; refine ZYa (y := .inl ()) (ZYa (y := .inr ()) (Zad (fun k => (k : Int)) r.length rfl (by omega) (fun k hk => ?_) ?_) rfl) (by simp only; rw [w0, Zc])
    · simp only; rw [decide_eq_true (by omega), ZJ, Zdc hk, Zc, rv2 hk, Zc, ZEf (zQ hk).2 zt (by omega), Zc, lt4, step k hk (by omega), ZJ, Zda (by omega) (by omega), Zc]; rfl
    · simp only; rw [decide_eq_false (by omega), ZF]
  · have hlt : kR (r.map pv) t < (r.map pv).length := by omega
    rw [if_neg hc]; have at_t := kR_at hlt; have res : ∀ v : Rat × Int, (∀ kk, kk = kR (r.map pv) t → (ifb ((kk : Int) == 0) (bnd (idx r 0) fun y158 => bnd (Z6a y158.1) fun y169 => some (.inr (.inl (y169, (0 : Int))))) (bnd (chk .i64 ((kk : Int) - 1)) fun y198 => bnd (idx r y198) fun y200 => bnd (Z6a y200.2) fun y211 => bnd (chk .i64 ((kk : Int) - 1)) fun y220 => bnd (idx r y220) fun y222 => bnd (Z6a y222.1) fun y233 => bnd (idx r (kk : Int)) fun y242 => bnd (Z6a y242.1) fun y253 => bnd (bnd (Zcc t y211) fun y526 => bnd (Zcc (gD (r.map pv) kk).2 y211) fun y535 => bnd (ZFe y526 y535) fun y544 => some y544) (fun (x460 : Rat) => (bnd (Zcc y253 y233) fun y476 => bnd (ZKe x460 y476) fun y485 => bnd (Z7d y233 y485) fun y494 => some (.inr (.inl (y494, (0 : Int)))))))) = some ((.inr (.inl v)) : Int ⊕ ((Rat × Int) ⊕ Unit))) → (bnd (bnd (Zea (fun s : Int => match s with | x65 => (ifb (decide (x65 < (r.length : Int))) (bnd (idx r x65) fun y88 => bnd (Z6a y88.2) fun y101 => bnd (Zzd y101 t) fun y136 => ifb (decide (y136 < (0 : Int))) (bnd (chk .i64 (x65 + ((1 : Int)))) fun y149 => some (.inl y149)) (ifb (x65 == ((0 : Int))) (bnd (idx r ((0 : Int))) fun y158 => bnd (Z6a y158.1) fun y169 => some (.inr ((.inl ((y169, (0 : Int))))))) (bnd (chk .i64 (x65 - ((1 : Int)))) fun y198 => bnd (idx r y198) fun y200 => bnd (Z6a y200.2) fun y211 => bnd (chk .i64 (x65 - ((1 : Int)))) fun y220 => bnd (idx r y220) fun y222 => bnd (Z6a y222.1) fun y233 => bnd (idx r x65) fun y242 => bnd (Z6a y242.1) fun y253 => bnd (bnd (Zcc t y211) fun y526 => bnd (Zcc y101 y211) fun y535 => bnd (ZFe y526 y535) fun y544 => some y544) (fun (x460 : Rat) => (bnd (Zcc y253 y233) fun y476 => bnd (ZKe x460 y476) fun y485 => bnd (Z7d y233 y485) fun y494 => some (.inr ((.inl ((y494, (0 : Int))))))))))) (some (.inr ((.inr (()))))))) Zta ((0 : Int))) (fun (p : (Rat × Int) ⊕ (Unit)) => match p with | .inl ((x77, x78)) => (some ((.inr ((x77, x78))))) | .inr (()) => (some ((.inl (())))))) (fun (p : (Unit) ⊕ (Rat × Int)) => match p with | .inl (()) => (bnd (Zfc ((0 : Int))) fun y45 => some ((y45, (5 : Int)))) | .inr ((x63, x64)) => (some ((x63, x64))))) = some v := fun v hv => by
      refine ZYa (y := .inr v) (ZYa (y := .inl v) (Zad (fun k => (k : Int)) (kR (r.map pv) t) rfl (by omega) (fun k hk => ?_) ?_) rfl) rfl
      · have hk' : k < r.length := by omega
        simp only; rw [decide_eq_true (by omega), ZJ, Zdc hk', Zc, rv2 hk', Zc, ZEf (zQ hk').2 zt (by omega), Zc, lt4, step k hk' hk, ZJ, Zda (by omega) (by omega), Zc]; rfl
      · have hk' : kR (r.map pv) t < r.length := by omega
        have nlt : decide ((gD (r.map pv) (kR (r.map pv) t)).2 < t) = false := decide_eq_false (by grind); simp only; rw [decide_eq_true (by omega), ZJ, Zdc hk', Zc, rv2 hk', Zc, ZEf (zQ hk').2 zt (by omega), Zc, lt4, nlt, ZF]; have := hv _ rfl; rw [Zdc hk'] at this; exact this
    have hk' : kR (r.map pv) t < r.length := by omega
    have bt : ∀ j, j < kR (r.map pv) t → (gD (r.map pv) j).2 < t := fun j hj => ZCh hj; by_cases hk0 : kR (r.map pv) t = 0
    · rw [if_pos hk0]; refine res _ fun kk hkk => ?_; rw [hkk, hk0, show ((((0 : Nat) : Int)) == (0 : Int)) = true from rfl, ZJ, show idx r (0 : Int) = some (gB r 0) from Zdc h0, Zc, rv1 h0, Zc]
    · rw [if_neg hk0]; refine res _ fun kk hkk => ?_; rw [← hkk] at hk' at_t bt hk0 ⊢; have e0 : (((kk : Nat) : Int) == (0 : Int)) = false := by rw [beq_eq_false_iff_ne]; omega
      have e1 : (kk : Int) - 1 = ((kk - 1 : Nat) : Int) := by omega
      have p1 : kk - 1 < r.length := by omega
      have zp := zQ p1; have zq := zQ hk'; have tt := R.time (kk - 1) kk (by omega) (by omega); have vv := bt (kk - 1) (by omega); have d1 := ZLc zt zp.2; have d2 := ZLc zq.2 zp.2; have d3 := ZLc zq.1 zp.1; have d5 := Z6f d1 d2; have n4 : (gD (r.map pv) kk).2 - (gD (r.map pv) (kk - 1)).2 ≠ 0 := by grind
      rw [e0, ZF, Zda (by omega) (by omega), Zc, e1, Zdc p1, Zc, rv2 p1, Zc, Zc, Zdc p1, Zc, rv1 p1, Zc, Zdc hk', Zc, rv1 hk', Zc, ZAh zt zp.2 (by omega), Zc, ZAh zq.2 zp.2 (by omega), Zc, Zcn d1 d2 (by omega) n4, Zc, Zc, ZAh zq.1 zp.1 (by omega), Zc, rmul_ok d5 d3 (by omega), Zc, radd_ok zp.1 (ZFi d5 d3) (by omega), Zc]; have es : Zbj (gD (r.map pv) (kk - 1)) (gD (r.map pv) kk) t = (gD (r.map pv) (kk - 1)).1 + (t - (gD (r.map pv) (kk - 1)).2) / ((gD (r.map pv) kk).2 - (gD (r.map pv) (kk - 1)).2) * ((gD (r.map pv) kk).1 - (gD (r.map pv) (kk - 1)).1) := by
        unfold Zbj; generalize (gD (r.map pv) kk).2 - (gD (r.map pv) (kk - 1)).2 = b at *; have hc3 : 0 < (gD (r.map pv) kk).1 - (gD (r.map pv) (kk - 1)).1 := by grind
        generalize (gD (r.map pv) kk).1 - (gD (r.map pv) (kk - 1)).1 = c at *; generalize t - (gD (r.map pv) (kk - 1)).2 = a at *; have hcc : c ≠ 0 := by grind
        have i1 := Rat.mul_inv_cancel b n4; have i2 := Rat.mul_inv_cancel c hcc; have i3 := Rat.mul_inv_cancel (b / c) (by rw [Rat.div_def]; intro h; have := congrArg (· * c) h; simp only [Rat.zero_mul, Rat.mul_assoc, Rat.inv_mul_cancel c hcc, Rat.mul_one] at this; exact n4 this); rw [Rat.div_def a (b / c), Rat.div_def a b]; have e3 : (b / c)⁻¹ = b⁻¹ * c := by
          have : (b / c) * (b⁻¹ * c) = 1 := by rw [Rat.div_def]; grind
          grind
        rw [e3]; grind
      rw [es]
theorem Zjo : ZJg l = some (Zff (r.map pv)) := by
  obtain ⟨h60, h0⟩ := r_len hr R; have hlen : (r.map pv).length = r.length := List.length_map ..; have w0 : Zfc 0 = some 0 := rfl; unfold ZJg Zff; rw [hr, Zc, hlen, w0]; by_cases h : r.length < 2
  · rw [decide_eq_true (by omega), ZJ, if_pos h, Zc]
  rw [decide_eq_false (by omega), ZF, if_neg h, Zc]; refine ZYa (y := bs (r.map pv) (r.length - 2)) (ZYa (y := bs (r.map pv) (r.length - 2)) (Zad (fun k => ((match k with | 0 => 0 | k + 1 => bs (r.map pv) k), ((k + 1 : Nat) : Int))) (r.length - 1) rfl (by omega) (fun k hk => ?_) ?_) rfl) rfl
  · have hk1 : k + 1 < r.length := by omega
    have e1 : ((k + 1 : Nat) : Int) - 1 = (k : Int) := by omega
    have zp := zQ (l := r) (i := k) (by omega); have zq := zQ hk1; have tt := R.time k (k + 1) (by omega) (by omega); have n3 : (gD (r.map pv) (k + 1)).1 - (gD (r.map pv) k).1 ≠ 0 := by grind
    have zs := Z9i R (i := k + 1) (by omega) (by omega); have es : ((gD (r.map pv) (k + 1)).2 - (gD (r.map pv) k).2) / ((gD (r.map pv) (k + 1)).1 - (gD (r.map pv) k).1) = slD (r.map pv) (k + 1) := rfl; have hk0 : k < r.length := by omega
    simp only; rw [decide_eq_true (by omega), ZJ, Zdc hk1]; simp only [Zc]; rw [Zda (by omega) (by omega), e1]; simp only [Zc]; rw [Zdc hk0]; simp only [Zc]; rw [rv2 hk1, rv2 hk0, rv1 hk1, rv1 hk0]; simp only [Zc]; rw [ZAh zq.2 zp.2 (by omega), ZAh zq.1 zp.1 (by omega)]; simp only [Zc]; rw [Zcn (ZLc zq.2 zp.2) (ZLc zq.1 zp.1) (by omega) n3, es]; simp only [Zc]; have ck : chk .i64 (((k + 1 : Nat) : Int) + 1) = some (((k + 1 + 1 : Nat) : Int)) := Zda (by omega) (by omega)
    cases k with
    | zero =>
      rw [show (((0 + 1 : Nat) : Int) == 1) = true from rfl, ZJ, Zc, ZJ, Zc, ck, Zc]; rfl
    | succ k =>
      have en : (((k + 1 + 1 : Nat) : Int) == 1) = false := by rw [beq_eq_false_iff_ne]; omega
      have el : bs (r.map pv) (k + 1) = if bs (r.map pv) k < slD (r.map pv) (k + 2) then slD (r.map pv) (k + 2) else bs (r.map pv) k := rfl; rw [en, ZF, ZEf zs (ZBi R k (by omega)) (by omega), Zc, gt4, Zc]; refine ZYa (y := bs (r.map pv) (k + 1)) ?_ (by rw [ck, Zc]); rw [el]; by_cases hh : bs (r.map pv) k < slD (r.map pv) (k + 2)
      · rw [decide_eq_true hh, ZJ, if_pos hh]
      · rw [decide_eq_false hh, ZF, if_neg hh]
  · simp only; rw [decide_eq_false (by omega), ZF]; obtain ⟨n, hn⟩ : ∃ n, r.length = n + 2 := ⟨r.length - 2, by omega⟩; rw [hn]; rfl
end
theorem Zzq (l : List (Nat × Nat)) (torque : Int × Int) (ht : i64 torque) : ZTi l torque = some true := by
  unfold ZTi; rw [Ztq]; simp only [Zc]; by_cases n1 : 60 < l.length
  · rw [decide_eq_true (by omega), ZJ]
  have h60 : l.length ≤ 60 := by omega
  rw [decide_eq_false (by omega), ZF, ZRn l (by omega), Zc, ZTq h60]; unfold Zsh rofF; simp only [Zc]; rw [show Zoe (torque.1, torque.2) = Zoe torque from rfl]; have zt := (ZCn ht).mono (show 64 ≤ 1000 by omega); generalize Zoe torque = t at *; have q0 : Zld (0 : Rat) = some true := rfl; by_cases hc : ZRc l = 0
  · have n0 : ((0 : Int) != 0) = false := rfl; have H := pts_of hc h60; have n2 := (Zhk hc).1; have hr := Zgr n2 h60; have R := H.rise; have hrise := rise_eq H; have hlen : (l.map pv).length = l.length := List.length_map ..; rw [hlen] at R hrise; rw [← List.map_drop] at R hrise; generalize l.drop (loI (l.map pv) l.length) = r at *; have hrl : (r.map pv).length = r.length := List.length_map ..; have i0 : idx (r.map pv) (0 : Int) = some (gD (r.map pv) 0) := ZXc R R.n0; have eC : ZCf l = some (((gD (r.map pv) 0).2, (gD (r.map pv) 0).1, (gD (r.map pv) (hiI (r.map pv) r.length)).2, (gD (r.map pv) (hiI (r.map pv) r.length)).1), 0) := by
      unfold ZCf; rw [hrise]; simp only [Zc, n0, ZF]; rw [ZPo R, i0, hrl]; simp only [Zc]
    have eR : ZYe l t = some (Ztf (r.map pv) t) := by
      unfold ZYe; rw [hrise]; simp only [Zc, n0, ZF]; rw [ZZq R zt]; rfl
    have eS : Zxf l = some (Zff (r.map pv)) := by
      unfold Zxf; rw [hrise]; simp only [Zc, n0, ZF]; rw [Zyq R]; rfl
    have z0 := R.szs 0 R.n0; have zh := R.szs _ (hi_lt R); rw [hrl] at zh; have zr := ZFo R zt; have zs := Zyo R; rw [eC, eR, eS, ZBp hr R, Zeo hr R zt, Zjo hr R, hc]; simp only [Zc, n0, ZF]; simp only [beq_self_eq_true, ZJ]; rw [Z9f z0.2 (by omega), Z9f z0.1 (by omega), Z9f zh.2 (by omega), Z9f zh.1 (by omega), Z9f zr (by omega), Z9f zs (by omega)]; simp only [Zc, ZJ]
  · have nc : (ZRc l != 0) = true := by simpa using hc
    have hrise := Z7n hc h60; have eC : ZCf l = some ((0, 0, 0, 0), ZRc l) := by
      unfold ZCf; rw [hrise]; simp only [Zc, nc, ZJ]
    have eR : ZYe l t = some (0, ZRc l) := by
      unfold ZYe; rw [hrise]; simp only [Zc, nc, ZJ]
    have eS : Zxf l = some (0, ZRc l) := by
      unfold Zxf; rw [hrise]; simp only [Zc, nc, ZJ]
    rw [eC, eR, eS]; simp only [Zc, nc, ZJ, beq_self_eq_true, q0]
theorem i64_of {v : Ze} {c : List Value} {r : Int × Int} (h : Rep.rel (ZB (Zg .i64) (Zg .i64)) v c r) : i64 r := by
  obtain ⟨c1, c2, _, ⟨_, h1⟩, _, h2⟩ := h; exact ⟨ZFb.1 h1, ZFb.1 h2⟩
end Go.Eng
namespace Go.Eng
open Go.RowKit Go.WideShapes Go.ChangeShapes
theorem ZLm {P : Program} {t : TypeId} {k : FloatKind} (ht : P.underlying t = some (.float k)) : Zfe P t (ZA k) := by
  intro H enc W fuel cs x h
  cases fuel with
  | zero => simp [DataW.trod] at h
  | succ n =>
    unfold DataW.trod at h; rw [ht] at h; split at h <;> simp_all; rename_i k2 z heq; obtain ⟨⟨rfl, hw⟩, _⟩ := h; refine ⟨z, rfl, ?_⟩
    cases k2
    · have hw := of_decide_eq_true (show decide (z < 2 ^ 32) = true from hw); exact Nat.lt_trans hw (by decide)
    · have hw := of_decide_eq_true (show decide (z < 2 ^ 64) = true from hw); exact hw
end Go.Eng
namespace Go.Eng
open Go.RowKit
theorem Zi {α : Type _} {a b : α} (h : some a = some b) : a = b := Option.some.inj h
theorem Zx (b : Bool) : b = true ∨ b = false := (Bool.eq_false_or_eq_true b)
theorem leT {a b c : Ze} (h : a.le b) (k : b.le c) : a.le c := Ze.le_trans h k
theorem leR (v : Ze) : v.le v := Ze.le_refl v
theorem Zo {P : Program} {Q : Exit → Act → World → Prop} {a : Act} {w : World} {id : Nat} {l : List Oper} (h : wpList P l.toArray Q l a w) : (Code.region id l.toArray false).wp P Q a w := wp_region_lit h
theorem Zj {P : Program} {Q : Exit → Act → World → Prop} {a : Act} {w : World} {x y : Code} (h : ∀ K : Act → World → Prop, (∀ a w, y.wp P Q a w → K a w) → x.wp P (Exit.then K Q) a w) : (Code.seq x y).wp P Q a w := wp_seq_k h
theorem Zq {α : Type} {A : Rep α} {v v' : Ze} {cs : List Value} {x : α} (hv : v.le v') (h : A.rel v cs x) : A.rel v' cs x := A.mono hv h
theorem Z4 {α : Type} (A : Rep α) {v : Ze} {cs : List Value} {x : α} (h : A.rel v cs x) : cs.all Z3a = true := A.flat h
theorem Atm {v v' : Ze} {b off : Nat} {cs : List Value} (h : v.le v') (k : At v b off cs) : At v' b off cs := At.mono h k
end Go.Eng
namespace Go.Eng
open Go.Proofs Go.RowKit
theorem Zzm : ArrOf Tryz.prog 178 20 1 := ⟨5, fun _ => by kernel_rfl, fun _ => by kernel_rfl⟩
theorem Zhd : ZKd Tryz.prog 138 139 .u64 .u32 := fun _ _ => by kernel_rfl
theorem ZXk : ZKd Tryz.prog 138 3 .u64 .i64 := fun _ _ => by kernel_rfl
theorem ZQm : ZKd Tryz.prog 138 5 .u64 .u8 := fun _ _ => by kernel_rfl
theorem ZCc : ZKd Tryz.prog 139 138 .u32 .u64 := fun _ _ => by kernel_rfl
theorem Zbm : ZKd Tryz.prog 139 2 .u32 .i64 := fun _ _ => by kernel_rfl
theorem Z3i : ZKd Tryz.prog 2 138 .i64 .u64 := fun _ _ => by kernel_rfl
theorem ZNq : ZKd Tryz.prog 2 139 .i64 .u32 := fun _ _ => by kernel_rfl
theorem Zvn : ZKd Tryz.prog 3 138 .i64 .u64 := fun _ _ => by kernel_rfl
theorem ZTk : ZKd Tryz.prog 3 165 .i64 .u64 := fun _ _ => by kernel_rfl
theorem k_cv5_3 : ZKd Tryz.prog 5 3 .u8 .i64 := fun _ _ => by kernel_rfl
theorem ZFl : Elem Tryz.prog 148 9 1 16 (Value.string (Z9 [])) := ⟨Tryz.underlying148, by kernel_rfl, rfl, by decide⟩
theorem k_el26 : Elem Tryz.prog 26 86 2 8 (Value.agg #[Value.float FloatKind.f32 0, Value.float FloatKind.f32 0]) := ⟨Tryz.underlying26, by kernel_rfl, rfl, by decide⟩
theorem ZPc : Elem Tryz.prog 29 138 1 8 (Value.int IntKind.u64 0) := ⟨Tryz.underlying29, by kernel_rfl, rfl, by decide⟩
theorem ZEb : Elem Tryz.prog 44 139 1 4 (Value.int IntKind.u32 0) := ⟨Tryz.underlying44, by kernel_rfl, rfl, by decide⟩
theorem k_el79 : Elem Tryz.prog 79 78 6 112 (Value.agg #[Value.bool false, Value.slice none 0 0, Value.slice none 0 0, Value.bool false, Value.slice none 0 0, Value.slice none 0 0]) := ⟨Tryz.underlying79, by kernel_rfl, rfl, by decide⟩
theorem Zgl : Elem Tryz.prog 89 93 6 112 (Value.agg #[Value.bool false, Value.slice none 0 0, Value.slice none 0 0, Value.bool false, Value.slice none 0 0, Value.slice none 0 0]) := ⟨Tryz.underlying89, by kernel_rfl, rfl, by decide⟩
theorem k_en10 : ZV Tryz.prog 10 := fun _ _ => by kernel_rfl
theorem ZSl : ZV Tryz.prog 100 := fun _ _ => by kernel_rfl
theorem ZDk : ZV Tryz.prog 101 := fun _ _ => by kernel_rfl
theorem ZPd : ZV Tryz.prog 103 := fun _ _ => by kernel_rfl
theorem k_en104 : ZV Tryz.prog 104 := fun _ _ => by kernel_rfl
theorem Zwl : ZV Tryz.prog 105 := fun _ _ => by kernel_rfl
theorem k_en11 : ZV Tryz.prog 11 := fun _ _ => by kernel_rfl
theorem Zoj : ZV Tryz.prog 111 := fun _ _ => by kernel_rfl
theorem Z3h : ZV Tryz.prog 112 := fun _ _ => by kernel_rfl
theorem k_en113 : ZV Tryz.prog 113 := fun _ _ => by kernel_rfl
theorem k_en114 : ZV Tryz.prog 114 := fun _ _ => by kernel_rfl
theorem Z1i : ZV Tryz.prog 115 := fun _ _ => by kernel_rfl
theorem k_en116 : ZV Tryz.prog 116 := fun _ _ => by kernel_rfl
theorem Zdl : ZV Tryz.prog 117 := fun _ _ => by kernel_rfl
theorem k_en118 : ZV Tryz.prog 118 := fun _ _ => by kernel_rfl
theorem k_en119 : ZV Tryz.prog 119 := fun _ _ => by kernel_rfl
theorem Znb : ZV Tryz.prog 12 := fun _ _ => by kernel_rfl
theorem k_en120 : ZV Tryz.prog 120 := fun _ _ => by kernel_rfl
theorem k_en121 : ZV Tryz.prog 121 := fun _ _ => by kernel_rfl
theorem Zfl : ZV Tryz.prog 127 := fun _ _ => by kernel_rfl
theorem k_en129 : ZV Tryz.prog 129 := fun _ _ => by kernel_rfl
theorem k_en13 : ZV Tryz.prog 13 := fun _ _ => by kernel_rfl
theorem k_en131 : ZV Tryz.prog 131 := fun _ _ => by kernel_rfl
theorem k_en132 : ZV Tryz.prog 132 := fun _ _ => by kernel_rfl
theorem k_en133 : ZV Tryz.prog 133 := fun _ _ => by kernel_rfl
theorem Z2l : ZV Tryz.prog 136 := fun _ _ => by kernel_rfl
theorem k_en137 : ZV Tryz.prog 137 := fun _ _ => by kernel_rfl
theorem Zpl : ZV Tryz.prog 138 := fun _ _ => by kernel_rfl
theorem k_en14 : ZV Tryz.prog 14 := fun _ _ => by kernel_rfl
theorem k_en15 : ZV Tryz.prog 15 := fun _ _ => by kernel_rfl
theorem k_en16 : ZV Tryz.prog 16 := fun _ _ => by kernel_rfl
theorem ZWa : ZV Tryz.prog 17 := fun _ _ => by kernel_rfl
theorem ZVe : ZV Tryz.prog 20 := fun _ _ => by kernel_rfl
theorem k_en21 : ZV Tryz.prog 21 := fun _ _ => by kernel_rfl
theorem ZBf : ZV Tryz.prog 22 := fun _ _ => by kernel_rfl
theorem ZZj : ZV Tryz.prog 23 := fun _ _ => by kernel_rfl
theorem k_en24 : ZV Tryz.prog 24 := fun _ _ => by kernel_rfl
theorem k_en25 : ZV Tryz.prog 25 := fun _ _ => by kernel_rfl
theorem k_en26 : ZV Tryz.prog 26 := fun _ _ => by kernel_rfl
theorem k_en27 : ZV Tryz.prog 27 := fun _ _ => by kernel_rfl
theorem Zmk : ZV Tryz.prog 28 := fun _ _ => by kernel_rfl
theorem Zim : ZV Tryz.prog 29 := fun _ _ => by kernel_rfl
theorem Zgh : ZV Tryz.prog 30 := fun _ _ => by kernel_rfl
theorem Zeb : ZV Tryz.prog 31 := fun _ _ => by kernel_rfl
theorem Zok : ZV Tryz.prog 32 := fun _ _ => by kernel_rfl
theorem Zod : ZV Tryz.prog 33 := fun _ _ => by kernel_rfl
theorem Z8b : ZV Tryz.prog 34 := fun _ _ => by kernel_rfl
theorem Zsl : ZV Tryz.prog 35 := fun _ _ => by kernel_rfl
theorem k_en36 : ZV Tryz.prog 36 := fun _ _ => by kernel_rfl
theorem Zhe : ZV Tryz.prog 37 := fun _ _ => by kernel_rfl
theorem k_en38 : ZV Tryz.prog 38 := fun _ _ => by kernel_rfl
theorem k_en39 : ZV Tryz.prog 39 := fun _ _ => by kernel_rfl
theorem ZYf : ZV Tryz.prog 41 := fun _ _ => by kernel_rfl
theorem Zyf : ZV Tryz.prog 43 := fun _ _ => by kernel_rfl
theorem Zkj : ZV Tryz.prog 44 := fun _ _ => by kernel_rfl
theorem ZPe : ZV Tryz.prog 45 := fun _ _ => by kernel_rfl
theorem ZKi : ZV Tryz.prog 47 := fun _ _ => by kernel_rfl
theorem k_en48 : ZV Tryz.prog 48 := fun _ _ => by kernel_rfl
theorem Zzf : ZV Tryz.prog 49 := fun _ _ => by kernel_rfl
theorem k_en5 : ZV Tryz.prog 5 := fun _ _ => by kernel_rfl
theorem k_en50 : ZV Tryz.prog 50 := fun _ _ => by kernel_rfl
theorem Znl : ZV Tryz.prog 51 := fun _ _ => by kernel_rfl
theorem Zan : ZV Tryz.prog 52 := fun _ _ => by kernel_rfl
theorem k_en53 : ZV Tryz.prog 53 := fun _ _ => by kernel_rfl
theorem k_en54 : ZV Tryz.prog 54 := fun _ _ => by kernel_rfl
theorem k_en55 : ZV Tryz.prog 55 := fun _ _ => by kernel_rfl
theorem k_en56 : ZV Tryz.prog 56 := fun _ _ => by kernel_rfl
theorem Z6d : ZV Tryz.prog 57 := fun _ _ => by kernel_rfl
theorem Zjf : ZV Tryz.prog 58 := fun _ _ => by kernel_rfl
theorem ZVh : ZV Tryz.prog 59 := fun _ _ => by kernel_rfl
theorem k_en6 : ZV Tryz.prog 6 := fun _ _ => by kernel_rfl
theorem Zue : ZV Tryz.prog 60 := fun _ _ => by kernel_rfl
theorem k_en61 : ZV Tryz.prog 61 := fun _ _ => by kernel_rfl
theorem ZBk : ZV Tryz.prog 62 := fun _ _ => by kernel_rfl
theorem k_en63 : ZV Tryz.prog 63 := fun _ _ => by kernel_rfl
theorem k_en64 : ZV Tryz.prog 64 := fun _ _ => by kernel_rfl
theorem Zcf : ZV Tryz.prog 65 := fun _ _ => by kernel_rfl
theorem Z5d : ZV Tryz.prog 66 := fun _ _ => by kernel_rfl
theorem Zxd : ZV Tryz.prog 67 := fun _ _ => by kernel_rfl
theorem k_en68 : ZV Tryz.prog 68 := fun _ _ => by kernel_rfl
theorem ZBg : ZV Tryz.prog 69 := fun _ _ => by kernel_rfl
theorem k_en7 : ZV Tryz.prog 7 := fun _ _ => by kernel_rfl
theorem ZJj : ZV Tryz.prog 70 := fun _ _ => by kernel_rfl
theorem Zhg : ZV Tryz.prog 71 := fun _ _ => by kernel_rfl
theorem Z9m : ZV Tryz.prog 72 := fun _ _ => by kernel_rfl
theorem ZLf : ZV Tryz.prog 74 := fun _ _ => by kernel_rfl
theorem ZIg : ZV Tryz.prog 75 := fun _ _ => by kernel_rfl
theorem k_en76 : ZV Tryz.prog 76 := fun _ _ => by kernel_rfl
theorem Z6h : ZV Tryz.prog 77 := fun _ _ => by kernel_rfl
theorem k_en78 : ZV Tryz.prog 78 := fun _ _ => by kernel_rfl
theorem k_en79 : ZV Tryz.prog 79 := fun _ _ => by kernel_rfl
theorem k_en8 : ZV Tryz.prog 8 := fun _ _ => by kernel_rfl
theorem Zdg : ZV Tryz.prog 80 := fun _ _ => by kernel_rfl
theorem k_en81 : ZV Tryz.prog 81 := fun _ _ => by kernel_rfl
theorem k_en82 : ZV Tryz.prog 82 := fun _ _ => by kernel_rfl
theorem Zcl : ZV Tryz.prog 83 := fun _ _ => by kernel_rfl
theorem k_en84 : ZV Tryz.prog 84 := fun _ _ => by kernel_rfl
theorem k_en85 : ZV Tryz.prog 85 := fun _ _ => by kernel_rfl
theorem k_en86 : ZV Tryz.prog 86 := fun _ _ => by kernel_rfl
theorem k_en87 : ZV Tryz.prog 87 := fun _ _ => by kernel_rfl
theorem k_en88 : ZV Tryz.prog 88 := fun _ _ => by kernel_rfl
theorem k_en89 : ZV Tryz.prog 89 := fun _ _ => by kernel_rfl
theorem k_en9 : ZV Tryz.prog 9 := fun _ _ => by kernel_rfl
theorem Z4i : ZV Tryz.prog 90 := fun _ _ => by kernel_rfl
theorem Zsk : ZV Tryz.prog 91 := fun _ _ => by kernel_rfl
theorem Zyi : ZV Tryz.prog 93 := fun _ _ => by kernel_rfl
theorem ZEe : ZV Tryz.prog 94 := fun _ _ => by kernel_rfl
theorem k_en95 : ZV Tryz.prog 95 := fun _ _ => by kernel_rfl
theorem ZZk : ZV Tryz.prog 96 := fun _ _ => by kernel_rfl
theorem Zdm : ZV Tryz.prog 97 := fun _ _ => by kernel_rfl
theorem k_en98 : ZV Tryz.prog 98 := fun _ _ => by kernel_rfl
theorem Z2j : ZV Tryz.prog 99 := fun _ _ => by kernel_rfl
theorem Zjl : EqB Tryz.prog 4 := fun _ _ _ => by kernel_rfl
theorem Z0g : ZMd Tryz.prog 102 add64Entry := ⟨_, Tryz.func102, by kernel_rfl, by kernel_rfl, by kernel_rfl, by kernel_rfl⟩
theorem ZJl : ZMd Tryz.prog 122 Z3j := ⟨_, Tryz.func122, by kernel_rfl, by kernel_rfl, by kernel_rfl, by kernel_rfl⟩
theorem Zmh : ZMd Tryz.prog 135 Extern.MathFloatBits.float64frombits := ⟨_, Tryz.func135, by kernel_rfl, by kernel_rfl, by kernel_rfl, by kernel_rfl⟩
theorem ZOf : ZMd Tryz.prog 92 Extern.MathFloatBits.float64bits := ⟨_, Tryz.func92, by kernel_rfl, by kernel_rfl, by kernel_rfl, by kernel_rfl⟩
theorem ZIj : Zob Tryz.prog 24 0 0 := fun _ _ _ => by kernel_rfl
theorem Z9h : Zob Tryz.prog 24 1 1 := fun _ _ _ => by kernel_rfl
theorem ZIb : Zob Tryz.prog 31 0 0 := fun _ _ _ => by kernel_rfl
theorem Zwb : Zob Tryz.prog 31 1 1 := fun _ _ _ => by kernel_rfl
theorem ZVb : Zob Tryz.prog 33 0 0 := fun _ _ _ => by kernel_rfl
theorem Z7b : Zob Tryz.prog 33 1 2 := fun _ _ _ => by kernel_rfl
theorem Zvc : Zob Tryz.prog 35 0 0 := fun _ _ _ => by kernel_rfl
theorem ZQc : Zob Tryz.prog 35 1 3 := fun _ _ _ => by kernel_rfl
theorem Zpd : Zob Tryz.prog 35 2 6 := fun _ _ _ => by kernel_rfl
theorem Zbe : Zob Tryz.prog 35 3 9 := fun _ _ _ => by kernel_rfl
theorem ZUa : Zob Tryz.prog 46 0 0 := fun _ _ _ => by kernel_rfl
theorem Zgc : Zob Tryz.prog 46 1 1 := fun _ _ _ => by kernel_rfl
theorem Zxk : Zob Tryz.prog 46 2 2 := fun _ _ _ => by kernel_rfl
theorem Zte : Zob Tryz.prog 48 0 0 := fun _ _ _ => by kernel_rfl
theorem ZUe : Zob Tryz.prog 48 1 3 := fun _ _ _ => by kernel_rfl
theorem Zmf : Zob Tryz.prog 48 2 6 := fun _ _ _ => by kernel_rfl
theorem Zfg : Zob Tryz.prog 48 3 9 := fun _ _ _ => by kernel_rfl
theorem Zgg : Zob Tryz.prog 78 0 0 := fun _ _ _ => by kernel_rfl
theorem Zzi : Zob Tryz.prog 78 1 3 := fun _ _ _ => by kernel_rfl
theorem ZNm : Zob Tryz.prog 81 0 0 := fun _ _ _ => by kernel_rfl
theorem Zoi : Zob Tryz.prog 81 1 3 := fun _ _ _ => by kernel_rfl
theorem Zro : Zob Tryz.prog 86 0 0 := fun _ _ _ => by kernel_rfl
theorem ZZo : Zob Tryz.prog 86 1 1 := fun _ _ _ => by kernel_rfl
theorem Zla : Zob Tryz.prog 88 0 0 := fun _ _ _ => by kernel_rfl
theorem ZVa : Zob Tryz.prog 88 1 1 := fun _ _ _ => by kernel_rfl
theorem Z0b : Zob Tryz.prog 93 0 0 := fun _ _ _ => by kernel_rfl
theorem ZQb : Zob Tryz.prog 93 1 3 := fun _ _ _ => by kernel_rfl
theorem Zna : Tryz.prog.follows .mixedOrders = true := by kernel_rfl
theorem ZJc : NeB Tryz.prog 4 := fun _ _ _ => by kernel_rfl
theorem Z7k : Z0c Tryz.prog 148 9 1 := ⟨fun _ => by kernel_rfl, fun _ => by kernel_rfl⟩
theorem ZW : Z0c Tryz.prog 22 88 2 := ⟨fun _ => by kernel_rfl, fun _ => by kernel_rfl⟩
theorem Zag : Z0c Tryz.prog 26 86 2 := ⟨fun _ => by kernel_rfl, fun _ => by kernel_rfl⟩
theorem Z0 : Z0c Tryz.prog 29 138 1 := ⟨fun _ => by kernel_rfl, fun _ => by kernel_rfl⟩
theorem Zga : Z0c Tryz.prog 44 139 1 := ⟨fun _ => by kernel_rfl, fun _ => by kernel_rfl⟩
theorem ZSf : Z0c Tryz.prog 79 78 6 := ⟨fun _ => by kernel_rfl, fun _ => by kernel_rfl⟩
theorem Z0a : Z0c Tryz.prog 89 93 6 := ⟨fun _ => by kernel_rfl, fun _ => by kernel_rfl⟩
theorem ZFa : Sized Tryz.prog 138 1 false := ⟨fun _ => by kernel_rfl, fun _ => by kernel_rfl⟩
theorem ZCb : Sized Tryz.prog 139 1 false := ⟨fun _ => by kernel_rfl, fun _ => by kernel_rfl⟩
theorem ZMe : Sized Tryz.prog 2 1 false := ⟨fun _ => by kernel_rfl, fun _ => by kernel_rfl⟩
theorem Z1l : Sized Tryz.prog 24 2 true := ⟨fun _ => by kernel_rfl, fun _ => by kernel_rfl⟩
theorem ZLa : Sized Tryz.prog 29 1 false := ⟨fun _ => by kernel_rfl, fun _ => by kernel_rfl⟩
theorem ZMa : Sized Tryz.prog 31 2 true := ⟨fun _ => by kernel_rfl, fun _ => by kernel_rfl⟩
theorem Zt : Sized Tryz.prog 33 3 true := ⟨fun _ => by kernel_rfl, fun _ => by kernel_rfl⟩
theorem ZOh : Sized Tryz.prog 35 12 true := ⟨fun _ => by kernel_rfl, fun _ => by kernel_rfl⟩
theorem Zsa : Sized Tryz.prog 4 1 false := ⟨fun _ => by kernel_rfl, fun _ => by kernel_rfl⟩
theorem ZXb : Sized Tryz.prog 44 1 false := ⟨fun _ => by kernel_rfl, fun _ => by kernel_rfl⟩
theorem ZD : Sized Tryz.prog 46 3 true := ⟨fun _ => by kernel_rfl, fun _ => by kernel_rfl⟩
theorem ZSk : Sized Tryz.prog 48 12 true := ⟨fun _ => by kernel_rfl, fun _ => by kernel_rfl⟩
theorem k_sz5 : Sized Tryz.prog 5 1 false := ⟨fun _ => by kernel_rfl, fun _ => by kernel_rfl⟩
theorem Zii : Sized Tryz.prog 78 6 true := ⟨fun _ => by kernel_rfl, fun _ => by kernel_rfl⟩
theorem ZXi : Sized Tryz.prog 79 1 false := ⟨fun _ => by kernel_rfl, fun _ => by kernel_rfl⟩
theorem Zbf : Sized Tryz.prog 81 4 true := ⟨fun _ => by kernel_rfl, fun _ => by kernel_rfl⟩
theorem Z1 : Sized Tryz.prog 84 1 false := ⟨fun _ => by kernel_rfl, fun _ => by kernel_rfl⟩
theorem Zak : Sized Tryz.prog 86 2 true := ⟨fun _ => by kernel_rfl, fun _ => by kernel_rfl⟩
theorem ZLl : Sized Tryz.prog 88 2 true := ⟨fun _ => by kernel_rfl, fun _ => by kernel_rfl⟩
theorem k_sz9 : Sized Tryz.prog 9 1 false := ⟨fun _ => by kernel_rfl, fun _ => by kernel_rfl⟩
theorem ZQa : Sized Tryz.prog 93 6 true := ⟨fun _ => by kernel_rfl, fun _ => by kernel_rfl⟩
theorem k_zv156 : ∀ w, (zeroValue 156).run Tryz.prog w = .ok (Value.agg #[Value.pointer none, Value.slice none 0 0]) w := fun _ => by kernel_rfl
theorem k_zv178 : ∀ w, (zeroValue 178).run Tryz.prog w = .ok (Value.agg #[Value.int IntKind.u8 0, Value.int IntKind.u8 0, Value.int IntKind.u8 0, Value.int IntKind.u8 0, Value.int IntKind.u8 0, Value.int IntKind.u8 0, Value.int IntKind.u8 0, Value.int IntKind.u8 0, Value.int IntKind.u8 0, Value.int IntKind.u8 0, Value.int IntKind.u8 0, Value.int IntKind.u8 0, Value.int IntKind.u8 0, Value.int IntKind.u8 0, Value.int IntKind.u8 0, Value.int IntKind.u8 0, Value.int IntKind.u8 0, Value.int IntKind.u8 0, Value.int IntKind.u8 0, Value.int IntKind.u8 0]) w := fun _ => by kernel_rfl
theorem Zmd : ∀ w, (zeroValue 31).run Tryz.prog w = .ok (Value.agg #[Value.bool false, Value.slice none 0 0]) w := fun _ => by kernel_rfl
theorem Zya : ∀ w, (zeroValue 33).run Tryz.prog w = .ok (Value.agg #[Value.bool false, Value.slice none 0 0, Value.slice none 0 0]) w := fun _ => by kernel_rfl
theorem Z7m : ∀ w, (zeroValue 35).run Tryz.prog w = .ok (Value.agg #[Value.bool false, Value.slice none 0 0, Value.slice none 0 0, Value.bool false, Value.slice none 0 0, Value.slice none 0 0, Value.bool false, Value.slice none 0 0, Value.slice none 0 0, Value.bool false, Value.slice none 0 0, Value.slice none 0 0]) w := fun _ => by kernel_rfl
theorem ZPa : ∀ w, (zeroValue 46).run Tryz.prog w = .ok (Value.agg #[Value.bool false, Value.slice none 0 0, Value.slice none 0 0]) w := fun _ => by kernel_rfl
theorem Z2m : ∀ w, (zeroValue 48).run Tryz.prog w = .ok (Value.agg #[Value.bool false, Value.slice none 0 0, Value.slice none 0 0, Value.bool false, Value.slice none 0 0, Value.slice none 0 0, Value.bool false, Value.slice none 0 0, Value.slice none 0 0, Value.bool false, Value.slice none 0 0, Value.slice none 0 0]) w := fun _ => by kernel_rfl
theorem Z5l : ∀ w, (zeroValue 78).run Tryz.prog w = .ok (Value.agg #[Value.bool false, Value.slice none 0 0, Value.slice none 0 0, Value.bool false, Value.slice none 0 0, Value.slice none 0 0]) w := fun _ => by kernel_rfl
theorem k_zv81 : ∀ w, (zeroValue 81).run Tryz.prog w = .ok (Value.agg #[Value.bool false, Value.slice none 0 0, Value.slice none 0 0, Value.slice none 0 0]) w := fun _ => by kernel_rfl
theorem k_zv86 : ∀ w, (zeroValue 86).run Tryz.prog w = .ok (Value.agg #[Value.float FloatKind.f32 0, Value.float FloatKind.f32 0]) w := fun _ => by kernel_rfl
theorem k_zv88 : ∀ w, (zeroValue 88).run Tryz.prog w = .ok (Value.agg #[Value.float FloatKind.f32 0, Value.float FloatKind.f32 0]) w := fun _ => by kernel_rfl
theorem ZKg : ∀ w, (zeroValue 93).run Tryz.prog w = .ok (Value.agg #[Value.bool false, Value.slice none 0 0, Value.slice none 0 0, Value.bool false, Value.slice none 0 0, Value.slice none 0 0]) w := fun _ => by kernel_rfl
theorem cut_w {e : World} {d : Ze} (hv : VIn d e) {E : List Value} {a : (List Int)} (F : Rep.rel (ZN (Zg .u64)) d E a) {z : (List Int)} (H : ZGi a = some z) : Ret Tryz.prog 103 #[(ZN (Zg .u64)).val E] e d (fun y v'=>∃ G,y = (ZN (Zg .u64)).val G ∧ (ZN (Zg .u64)).rel v' G z):=by
  obtain ⟨M,N,O,rfl⟩:=Zbb F;refine ZZ (K:=21) (args:=[.slice M (N) O]) hv Tryz.func103 rfl rfl zl fun f S=>?_;unfold ZGi at H;refine sr ?_;have S:=S.nilLoc 138 1;refine ov S rfl (ZJa S (y:=.slice (mkA none) 0 0) rfl) fun f S=>oe (Zj fun _ P=>?_);obtain ⟨Q,R,T⟩:=Za H;refine ZU (fun f w=>∃ (B : (List Int)) (j : Option Addr) (k : Nat) (l : Nat) (m : Ze),B = Q ∧ Ze.le d m ∧ St 21 e d [(0,.slice j (k) l)] [] m f w ∧ Rep.rel (ZN (Zg .u64)) m [.slice j (k) l] B) (fun _ U=>?_) ?_
  · have H:=R;refine wp_block ?_;obtain ⟨am,V,W⟩:=Za H;have S:=S.reorder (ℓ':=[]) [] rfl (by decide);refine ZEa V (fun X f w=>∃ (n : (List Int)) (o : Option Addr) (q : Nat) (s : Nat) (g : Ze),n = X ∧ Ze.le d g ∧ St 21 e d [(0,.slice o (q) s)] [] g f w ∧ Rep.rel (ZN (Zg .u64)) g [.slice o (q) s] n) ⟨_,_,_,_,_,rfl,(leR _),(S.fr' rfl),F⟩ ?_;rintro _ f w st ⟨n,o,q,s,g,hq,I,S,c⟩ H an Y Z;subst hq;refine Zj fun _ aa=>Zj fun _ ab=>?_;obtain ⟨ac,ad,ae⟩:=Za H;refine ZU (fun f w=>∃ (u : Bool) (C : Ze),u = ac ∧ Ze.le g C ∧ St 21 e d [(0,.slice o (q) s),(14,.bool (u))] [] C f w) (fun _ J=>?_) ?_
    · have H:=ad;rcases Zx (decide ((0 : Int) < (n.length : Int))) with h | h
      · have H:=Zy H h;obtain ⟨ao,af,H⟩:=Za H;obtain ⟨ap,D,H⟩:=Za H;refine Zo (mv S rfl fun f S=>ov S rfl (ZS S (Zs c) rfl rfl Z0) fun f S=>ov S rfl (Zh S rfl rfl ZHa) fun f S=>?_);have S:=S.bool (t:=5) rfl h;refine mv S rfl fun f S=>opy S rfl rfl rfl rfl (Zl S rfl) fun f S=>opy S rfl rfl rfl rfl (Zl S rfl) fun f S=>opy S rfl rfl rfl rfl (ZS S (Zs c) rfl rfl Z0) fun f S=>opy S rfl rfl rfl rfl (Zh S rfl rfl (Z3 af)) fun f S=>?_;obtain ⟨_,aq,ar,au,rfl,ag,ah⟩:=Zxa c (Zd D).2.1;obtain ⟨rfl,av⟩:=ah;refine opy S rfl rfl rfl rfl (ZC S rfl rfl Z0 (Zd D).1 (ltI (Zs c) (Zd D).2.2.1)) fun f S=>opy S rfl rfl rfl rfl (ZL S rfl ZFa (S.view ag)) fun f S=>opy S rfl rfl rfl rfl (Zh S rfl rfl Z5) fun f S=>ov S rfl (Zu S (b:=true) rfl rfl) fun f S=>Zn ?_;obtain rfl:=Zi H;refine Zb (J _ _ ⟨_,_,rfl,(leR _),(S.fr' rfl)⟩)
      have H:=Zz H h;refine Zo (mv S rfl fun f S=>ov S rfl (ZS S (Zs c) rfl rfl Z0) fun f S=>ov S rfl (Zh S rfl rfl ZHa) fun f S=>?_);have S:=S.bool (t:=5) rfl h;refine mv S rfl fun f S=>opn S rfl rfl rfl rfl fun f S=>opn S rfl rfl rfl rfl fun f S=>opn S rfl rfl rfl rfl fun f S=>opn S rfl rfl rfl rfl fun f S=>opn S rfl rfl rfl rfl fun f S=>opn S rfl rfl rfl rfl fun f S=>opn S rfl rfl rfl rfl fun f S=>ov S rfl (Zu S (b:=false) rfl rfl) fun f S=>Zn ?_;obtain rfl:=Zi H;refine Zb (J _ _ ⟨_,_,rfl,(leR _),(S.fr' rfl)⟩)
    rintro f w ⟨u,C,hq,v,S⟩;subst hq;have H:=ae;refine Zb (ab _ _ ?_);rcases Zx (u) with i | i
    · have H:=Zy H i;refine ZI S rfl i (wp_skip (Zb (aa _ _ (wp_block ?_))));obtain ⟨ai,aj,H⟩:=Za H;obtain ⟨aw,x,H⟩:=Za H;refine Zo (mv S rfl fun f S=>mv S rfl fun f S=>?_);have c:=Zq v c;refine ov S rfl (ZS S (Zs c) rfl rfl Z0) fun f S=>ov S rfl (Zh S rfl rfl (Z3 aj)) fun f S=>?_;obtain ⟨ax,ay,ak,L⟩:=Zzj S (A:=(Zg .u64)) (p:=(0 : Int)) (r:=ai) Z0 c (Zib x).1 (Zib x).2.1 (Zib x).2.2.1;rw [← (Zib x).2.2.2.1] at L;refine ov S rfl (ak rfl (.inl ⟨rfl,rfl⟩) (.inr ⟨_,_,rfl,rfl⟩)) fun f S=>mw S rfl fun f S=>Zn (Zwa ?_);obtain rfl:=Zi H;refine Y _ rfl _ _ ⟨_,_,_,_,_,rfl,(leT I v),(S.fr' rfl),L⟩
    have H:=Zz H i;refine ZH S rfl i (wp_exit (Z2 ?_));obtain rfl:=Zi H;have hq:=Z _ rfl;subst hq;have H:=W;refine Z2 (Zza ?_);obtain rfl:=Zi H;have c:=Zq v c;refine Zb (U _ _ ⟨_,_,_,_,_,rfl,(leT (leT (leR _) I) v),(S.fr' rfl),c⟩)
  rintro f w ⟨B,j,k,l,m,hq,az,S,al⟩;subst hq;have H:=T;refine Zb (P _ _ (sr (mv S rfl fun f S=>mw S rfl fun f S=>oe (wp_ret ?_))));obtain rfl:=Zi H;refine ZE S (ZP rfl (ZG S rfl)) ⟨[.slice j (k) l],rfl,al⟩
theorem ZQd {d : World} {b : Ze} (hv : VIn b d) {e : List Value} {a : (List Int)} (c : Rep.rel (ZN (Zg .u64)) b e a) {z : Nat} (hm : ZNb a = some z) :
    Ret Tryz.prog 103 #[(ZN (Zg .u64)).val e] d b (fun y v'=>∃ f,y = ZK.val f ∧ ZK.rel v' f z) :=
  by cases hm;exact cut_w hv c (cut_eq (Ztk c).1 (Ztk c).2)
theorem word_w {b : World} {a : Ze} (hv : VIn a b) {c : List Value} {n : Int} (h : Rep.rel (Zg .u64) a c n) {z : Nat} (H : Zqj n = some z) : Ret Tryz.prog 80 #[(Zg .u64).val c] b a (fun y v'=>∃ d,y = ZK.val d ∧ ZK.rel v' d z):=by
  obtain ⟨rfl,j⟩:=h;refine ZZ (K:=6) (args:=[.int .u64 (n)]) hv Tryz.func80 rfl rfl zl fun f S=>?_;unfold Zqj at H;refine sr (mw S rfl fun f S=>oe (Zj fun _ k=>?_));obtain ⟨u,m,H⟩:=Za H;refine Zo (mv S rfl fun f S=>?_);obtain ⟨e,w,o,S⟩:=Zqb S (n:=1) (cs:=[.int .u64 (n)]) (vals:=[(0,.int .u64 (n))]) (sz:=1) rfl (by decide) (Z4b ZPc (x:=.int .u64 (n)) (cs:=[.int .u64 (n)]) rfl rfl (by decide));have p : Rep.rels (Zg .u64) a [.int .u64 (n)] [n]:=(ZBb (Zw j) Z5a);refine ZAa wn rfl zl (o rfl) S fun f S=>?_;obtain ⟨v,B,S,q⟩:=S.pubSlice (i:=0) (A:=(Zg .u64)) (l:=[n]) (ℓ':=[]) rfl rfl rfl p rfl;refine opc S rfl (Zm S [.slice (mkA (some e)) (1) 1] ZPd rfl rfl) (ZQd S.vin (show Rep.rel (ZN (Zg .u64)) _ [.slice (mkA (some e)) (1) 1] ([n]) from q) m) ?_;rintro _ C f w D ⟨E,rfl,g⟩ S;obtain ⟨r,s,t,rfl⟩:=Zfa g;refine mw S rfl fun f S=>Zn (Zb (k _ _ (wp_ret ?_)));obtain rfl:=Zi H;refine ZE S (ZP rfl (ZG S rfl)) ⟨[.slice r s t],rfl,g⟩
theorem Z7f {b : World} {a : Ze} (hv : VIn a b) {c : List Value} {n : Int} (e : Rep.rel (Zg .u64) a c n) {z : Nat} (hm : ZSc n = some z) :
    Ret Tryz.prog 80 #[(Zg .u64).val c] b a (fun y v'=>∃ d,y = ZK.val d ∧ ZK.rel v' d z) :=
  word_w hv e (Z9p hm)
theorem of_w {k : World} {j : Ze} (hv : VIn j k) {l : List Value} {n : Int} (q : Rep.rel (Zg .i64) j l n) {z : Int} (H : of_m n = some z) : Ret Tryz.prog 47 #[(Zg .i64).val l] k j (fun y v'=>∃ m,y = Zka.val m ∧ Zka.rel v' m z):=by
  obtain ⟨rfl,G⟩:=q;refine ZZ (K:=14) (args:=[.int .i64 (n)]) hv Tryz.func47 rfl rfl zl fun f S=>?_;unfold of_m at H;refine sr (Z6 S wn rfl zl (cs:=[.bool false,.slice none 0 0]) (ZT Zmd) fun I f w S=>oe (Zj fun _ r=>sr (mv S rfl fun f S=>ov S rfl (Zh S rfl rfl Zca) fun f S=>oe ?_)));rcases Zx (decide (n < (0 : Int))) with a | a
  · have H:=Zy H a;refine ZI S rfl a (Zj fun _ t=>?_);obtain ⟨J,u,H⟩:=Za H;refine Zo (mv S rfl fun f S=>ov S rfl (ZIa S rfl (Z3i _)) fun f S=>ov S rfl (ZRj S rfl) fun f S=>opc S rfl (Zm S [.int .u64 (IntKind.u64.wrap (-(IntKind.u64.wrap n)))] Zdg rfl rfl) (Z7f S.vin (show Rep.rel (Zg .u64) _ [.int .u64 (IntKind.u64.wrap (-(IntKind.u64.wrap n)))] (IntKind.u64.wrap (-(IntKind.u64.wrap n))) from (Zw (Zva _ _))) u) ?_);rintro _ L f w M ⟨N,rfl,o⟩ S;obtain ⟨b,c,d,rfl⟩:=Zfa o;refine ov S rfl (Z7a S [(0,.bool (true)),(1,.slice b c d)] rfl (z:=.agg #[.bool (true),.slice b c d]) (by kernel_rfl)) fun f S=>?_;obtain ⟨w,v,S⟩:=sbp S [.bool (true),.slice b c d] ZMa 0 0 rfl;refine ZY wn rfl (v rfl rfl) (Zn (Zb (t _ _ (wp_ret (ZQ ?_)))));obtain ⟨O,x,H⟩:=Za H;have A:=ZZi (s:=true) o x;obtain rfl:=Zi H;refine ZE S (ZP rfl (ZKc S rfl ZMa rfl (S.box (i:=0) rfl 0 [.bool (true),.slice b c d] rfl))) ⟨[.bool (true),.slice b c d],rfl,A⟩
  have H:=Zz H a;refine ZH S rfl a (wp_skip (Zb (r _ _ (Zj fun _ B=>?_))));obtain ⟨P,C,H⟩:=Za H;refine Zo (mv S rfl fun f S=>ov S rfl (ZIa S rfl (Z3i _)) fun f S=>opc S rfl (Zm S [.int .u64 (IntKind.u64.wrap n)] Zdg rfl rfl) (Z7f S.vin (show Rep.rel (Zg .u64) _ [.int .u64 (IntKind.u64.wrap n)] (IntKind.u64.wrap n) from (Zw (Zva _ _))) C) ?_);rintro _ Q f w R ⟨T,rfl,p⟩ S;obtain ⟨e,g,h,rfl⟩:=Zfa p;refine ov S rfl (Z7a S [(0,.bool (false)),(1,.slice e g h)] rfl (z:=.agg #[.bool (false),.slice e g h]) (by kernel_rfl)) fun f S=>?_;obtain ⟨w,D,S⟩:=sbp S [.bool (false),.slice e g h] ZMa 0 0 rfl;refine ZY wn rfl (D rfl rfl) (Zn (Zb (B _ _ (wp_ret ?_))));obtain ⟨U,E,H⟩:=Za H;have F:=ZZi (s:=false) p E;obtain rfl:=Zi H;refine ZE S (ZP rfl (ZKc S rfl ZMa rfl (S.box (i:=0) rfl 0 [.bool (false),.slice e g h] rfl))) ⟨[.bool (false),.slice e g h],rfl,F⟩
theorem of_c {b : World} {a : Ze} (hv : VIn a b) {c : List Value} {n : Int} (d : Rep.rel (Zg .i64) a c n) {z : Int} (hm : ofF n = some z) :
    Ret Tryz.prog 47 #[(Zg .i64).val c] b a (fun y v'=>∃ e,y = Zka.val e ∧ Zka.rel v' e z) :=
  of_w hv d (ofF_eq d.2 hm)
theorem qint_w {g : World} {e : Ze} (hv : VIn e g) {h : List Value} {n : Int} (k : Rep.rel (Zg .i64) e h n) {z : Rat} (H : Zuj n = some z) : Ret Tryz.prog 20 #[(Zg .i64).val h] g e (fun y v'=>∃ i,y = Zf.val i ∧ Zf.rel v' i z):=by
  obtain ⟨rfl,l⟩:=k;refine ZZ (K:=6) (args:=[.int .i64 (n)]) hv Tryz.func20 rfl rfl zl fun f S=>?_;unfold Zuj at H;refine sr (Z6 S wn rfl zl (cs:=[.bool false,.slice none 0 0,.slice none 0 0]) (ZT Zya) fun s f w S=>oe (Zj fun _ m=>?_));obtain ⟨t,o,H⟩:=Za H;refine Zo (mv S rfl fun f S=>opc S rfl (Zm S [.int .i64 (n)] ZKi rfl rfl) (of_c S.vin (show Rep.rel (Zg .i64) _ [.int .i64 (n)] n from (Zw l)) o) ?_);rintro _ u f w v ⟨x,rfl,j⟩ S;obtain ⟨a,b,c,d,rfl⟩:=Zcb j;refine ov S rfl (Z7a S [(0,.agg #[.bool a,.slice b c d])] rfl (z:=.agg #[.bool a,.slice b c d,.slice none 0 0]) (by kernel_rfl)) fun f S=>?_;obtain ⟨w,p,S⟩:=sbp S [.bool a,.slice b c d,.slice none 0 0] Zt 0 0 rfl;refine ZY wn rfl (p rfl rfl) (Zn (Zb (m _ _ (wp_ret ?_))));obtain ⟨A,q,H⟩:=Za H;have r:=Zsj j (ZMf _) q;obtain rfl:=Zi H;refine ZE S (ZP rfl (Zma S rfl Zt 0 rfl rfl)) ⟨[.bool a,.slice b c d,.slice none 0 0],rfl,r⟩
theorem Z1e {b : World} {a : Ze} (hv : VIn a b) {c : List Value} {n : Int} (e : Rep.rel (Zg .i64) a c n) {z : Rat} (hm : ZEd n = some z) :
    Ret Tryz.prog 20 #[(Zg .i64).val c] b a (fun y v'=>∃ d,y = Zf.val d ∧ Zf.rel v' d z) :=
  qint_w hv e (ZVo hm)
theorem len64_w {b : World} {a : Ze} (hv : VIn a b) {q : List Value} {x : Int} (J : Rep.rel (Zg .u64) a q x) {z : Int} (H : Zrh x = some z) : Ret Tryz.prog 132 #[(Zg .u64).val q] b a (fun y v'=>∃ r,y = (Zg .i64).val r ∧ (Zg .i64).rel v' r z):=by
  obtain ⟨rfl,s⟩:=J;refine ZZ (K:=25) (args:=[.int .u64 (x)]) hv Tryz.func132 rfl rfl zl fun f S=>?_;unfold Zrh at H;refine sr (mw S rfl fun f S=>oe (Zj fun _ L=>sr (mv S rfl fun f S=>ov S rfl (Zh S rfl rfl ZKb) fun f S=>oe ?_)));obtain ⟨M,N,O⟩:=Za H;refine ZU (fun f w=>∃ (c : Int) (i : Int) (j : Ze),(c,i) = M ∧ Ze.le a j ∧ St 25 b a [(0,.int .u64 (c)),(2,.int .i64 (i))] [] j f w ∧ inR .u64 c ∧ inR .i64 i) (fun _ t=>?_) ?_
  · have H:=N;rcases Zx (decide ((4294967296 : Int) ≤ x)) with d | d
    · have H:=Zy H d;refine ZI S rfl d (Zj fun _ P=>?_);obtain ⟨ag,u,H⟩:=Za H;refine Zo (mv S rfl fun f S=>ov S rfl (Zh S rfl rfl (Zzb u)) fun f S=>mw S rfl fun f S=>Zn (Zb (P _ _ (Zo (mw S rfl fun f S=>Zn ?_)))));obtain rfl:=Zi H;refine Zb (t _ _ ⟨_,_,_,rfl,(leR _),(S.fr' rfl),(Zde s u),(by decide)⟩)
    have H:=Zz H d;refine ZH S rfl d (wp_skip ?_);obtain rfl:=Zi H;refine Zb (t _ _ ⟨_,_,_,rfl,(leR _),(S.fr' rfl),s,(by decide)⟩)
  rintro f w ⟨c,i,j,hq,ah,S,v,Q⟩;subst hq;have H:=O;refine Zb (L _ _ (Zj fun _ R=>sr (mv S rfl fun f S=>ov S rfl (Zh S rfl rfl ZKb) fun f S=>oe ?_)));obtain ⟨T,U,V⟩:=Za H;refine ZU (fun f w=>∃ (e : Int) (k : Int) (m : Ze),(e,k) = T ∧ Ze.le j m ∧ St 25 b a [(0,.int .u64 (e)),(2,.int .i64 (k))] [] m f w ∧ inR .u64 e ∧ inR .i64 k) (fun _ A=>?_) ?_
  · have H:=U;rcases Zx (decide ((65536 : Int) ≤ c)) with g | g
    · have H:=Zy H g;refine ZI S rfl g (Zj fun _ W=>?_);obtain ⟨ai,B,H⟩:=Za H;refine Zo (mv S rfl fun f S=>ov S rfl (Zh S rfl rfl (Zzb B)) fun f S=>mw S rfl fun f S=>Zn (Zb (W _ _ ?_)));obtain ⟨aj,C,H⟩:=Za H;refine Zo (mv S rfl fun f S=>ov S rfl (Zh S rfl rfl (Zpa C)) fun f S=>mw S rfl fun f S=>Zn ?_);obtain rfl:=Zi H;refine Zb (A _ _ ⟨_,_,_,rfl,(leR _),(S.fr' rfl),(Zde v B),(Zia C).2⟩)
    have H:=Zz H g;refine ZH S rfl g (wp_skip ?_);obtain rfl:=Zi H;refine Zb (A _ _ ⟨_,_,_,rfl,(leR _),(S.fr' rfl),v,Q⟩)
  rintro f w ⟨e,k,m,hq,ak,S,D,X⟩;subst hq;have H:=V;refine Zb (R _ _ (Zj fun _ Y=>sr (mv S rfl fun f S=>ov S rfl (Zh S rfl rfl ZKb) fun f S=>oe ?_)));obtain ⟨Z,aa,ab⟩:=Za H;refine ZU (fun f w=>∃ (n : Int) (o : Int) (p : Ze),(n,o) = Z ∧ Ze.le m p ∧ St 25 b a [(0,.int .u64 (n)),(2,.int .i64 (o))] [] p f w ∧ inR .u64 n ∧ inR .i64 o) (fun _ E=>?_) ?_
  · have H:=aa;rcases Zx (decide ((256 : Int) ≤ e)) with h | h
    · have H:=Zy H h;refine ZI S rfl h (Zj fun _ ac=>?_);obtain ⟨al,F,H⟩:=Za H;refine Zo (mv S rfl fun f S=>ov S rfl (Zh S rfl rfl (Zzb F)) fun f S=>mw S rfl fun f S=>Zn (Zb (ac _ _ ?_)));obtain ⟨am,G,H⟩:=Za H;refine Zo (mv S rfl fun f S=>ov S rfl (Zh S rfl rfl (Zpa G)) fun f S=>mw S rfl fun f S=>Zn ?_);obtain rfl:=Zi H;refine Zb (E _ _ ⟨_,_,_,rfl,(leR _),(S.fr' rfl),(Zde D F),(Zia G).2⟩)
    have H:=Zz H h;refine ZH S rfl h (wp_skip ?_);obtain rfl:=Zi H;refine Zb (E _ _ ⟨_,_,_,rfl,(leR _),(S.fr' rfl),D,X⟩)
  rintro f w ⟨n,o,p,hq,an,S,ao,ap⟩;subst hq;have H:=ab;refine Zb (Y _ _ (Zj fun _ ad=>?_));obtain ⟨aq,ae,H⟩:=Za H;obtain ⟨af,I,H⟩:=Za H;refine Zo (mv S rfl fun f S=>mv S rfl fun f S=>ov S rfl (ZIa S rfl (ZQm _)) fun f S=>ov S rfl (Zbr S (l:=([0,1,2,2,3,3,3,3,4,4,4,4,4,4,4,4,5,5,5,5,5,5,5,5,5,5,5,5,5,5,5,5,6,6,6,6,6,6,6,6,6,6,6,6,6,6,6,6,6,6,6,6,6,6,6,6,6,6,6,6,6,6,6,6,7,7,7,7,7,7,7,7,7,7,7,7,7,7,7,7,7,7,7,7,7,7,7,7,7,7,7,7,7,7,7,7,7,7,7,7,7,7,7,7,7,7,7,7,7,7,7,7,7,7,7,7,7,7,7,7,7,7,7,7,7,7,7,7,8,8,8,8,8,8,8,8,8,8,8,8,8,8,8,8,8,8,8,8,8,8,8,8,8,8,8,8,8,8,8,8,8,8,8,8,8,8,8,8,8,8,8,8,8,8,8,8,8,8,8,8,8,8,8,8,8,8,8,8,8,8,8,8,8,8,8,8,8,8,8,8,8,8,8,8,8,8,8,8,8,8,8,8,8,8,8,8,8,8,8,8,8,8,8,8,8,8,8,8,8,8,8,8,8,8,8,8,8,8,8,8,8,8,8,8,8,8,8,8,8,8,8,8,8,8,8,8] : List UInt8)) (by kernel_rfl) rfl Tryz.underlying9 ae) fun f S=>ov S rfl (ZIa S rfl (k_cv5_3 _)) fun f S=>ov S rfl (Zh S rfl rfl (Zpa I)) fun f S=>mw S rfl fun f S=>Zn (Zb (ad _ _ (wp_ret ?_))));obtain rfl:=Zi H;refine ZE S (ZP rfl (ZG S rfl)) ⟨[.int .i64 (af)],rfl,(Zw (Zia I).2)⟩
theorem len64_c {b : World} {a : Ze} (hv : VIn a b) {c : List Value} {x : Int} (e : Rep.rel (Zg .u64) a c x) {z : Int} (hm : Zlh x = some z) :
    Ret Tryz.prog 132 #[(Zg .u64).val c] b a (fun y v'=>∃ d,y = (Zg .i64).val d ∧ (Zg .i64).rel v' d z) :=
  len64_w hv e (Zjr hm)
theorem lz64_w {b : World} {a : Ze} (hv : VIn a b) {c : List Value} {x : Int} (g : Rep.rel (Zg .u64) a c x) {z : Int} (H : ZNi x = some z) : Ret Tryz.prog 117 #[(Zg .u64).val c] b a (fun y v'=>∃ d,y = (Zg .i64).val d ∧ (Zg .i64).rel v' d z):=by
  obtain ⟨rfl,h⟩:=g;refine ZZ (K:=6) (args:=[.int .u64 (x)]) hv Tryz.func117 rfl rfl zl fun f S=>?_;unfold ZNi at H;refine sr (mw S rfl fun f S=>oe (Zj fun _ i=>?_));obtain ⟨m,j,H⟩:=Za H;obtain ⟨k,e,H⟩:=Za H;refine Zo (mv S rfl fun f S=>opc S rfl (Zm S [.int .u64 (x)] k_en132 rfl rfl) (len64_c S.vin (show Rep.rel (Zg .u64) _ [.int .u64 (x)] x from (Zw h)) j) ?_);rintro _ n f w o ⟨p,rfl,l⟩ S;obtain ⟨rfl,q⟩:=l;refine ov S rfl (Zh S rfl rfl (Z3 e)) fun f S=>mw S rfl fun f S=>Zn (Zb (i _ _ (wp_ret ?_)));obtain rfl:=Zi H;refine ZE S (ZP rfl (ZG S rfl)) ⟨[.int .i64 (k)],rfl,(Zw (Zia e).2)⟩
theorem Zcm {b : World} {a : Ze} (hv : VIn a b) {c : List Value} {x : Int} (e : Rep.rel (Zg .u64) a c x) {z : Int} (hm : Zme x = some z) :
    Ret Tryz.prog 117 #[(Zg .u64).val c] b a (fun y v'=>∃ d,y = (Zg .i64).val d ∧ (Zg .i64).rel v' d z) :=
  lz64_w hv e (Zon hm)
theorem div64_w {e : World} {c : Ze} (hv : VIn c e) {X : List Value} {hi : Int} (p0 : Rep.rel (Zg .u64) c X hi) {Y : List Value} {lo : Int} (p1 : Rep.rel (Zg .u64) c Y lo) {Z : List Value} {y : Int} (p2 : Rep.rel (Zg .u64) c Z y) {z : Int × Int} (H : Zxh hi lo y = some z) : Ret Tryz.prog 105 #[(Zg .u64).val X,(Zg .u64).val Y,(Zg .u64).val Z] e c (fun y v'=>∃ r0 M,y = .tuple #[(Zg .u64).val r0,(Zg .u64).val M] ∧ (Zg .u64).rel v' r0 z.1 ∧ (Zg .u64).rel v' M z.2):=by
  obtain ⟨rfl,M⟩:=p0;obtain ⟨rfl,r2⟩:=p1;obtain ⟨rfl,r3⟩:=p2;refine ZZ (K:=135) (args:=[.int .u64 (hi),.int .u64 (lo),.int .u64 (y)]) hv Tryz.func105 rfl rfl zl fun f S=>?_;unfold Zxh at H;refine sr (mw S rfl fun f S=>mw S rfl fun f S=>oe (Zj fun _ an=>sr (mv S rfl fun f S=>ov S rfl (Zh S rfl rfl Z5) fun f S=>oe ?_)));rcases Zx (y == ((0 : Int))) with q | q
  · have H:=Zy H q;refine ZI S rfl q ?_
    cases H
  have H:=Zz H q;refine ZH S rfl q (wp_skip (Zb (an _ _ (Zj fun _ ao=>sr (mv S rfl fun f S=>mv S rfl fun f S=>ov S rfl (Zh S rfl rfl Zne) fun f S=>oe ?_)))));rcases Zx (decide (y ≤ hi)) with r | r
  · have H:=Zy H r;refine ZI S rfl r ?_
    cases H
  have H:=Zz H r;refine ZH S rfl r (wp_skip (Zb (ao _ _ (Zj fun _ ap=>sr (mv S rfl fun f S=>ov S rfl (Zh S rfl rfl Z5) fun f S=>oe ?_)))));rcases Zx (hi == ((0 : Int))) with s | s
  · have H:=Zy H s;refine ZI S rfl s (Zj fun _ aq=>?_);obtain ⟨ar,aa,H⟩:=Za H;obtain ⟨au,N,H⟩:=Za H;refine Zoa (fl:=#[true,true,true,true,true,true,false,false]) Zna (by kernel_rfl) S ?_;intro ops O F w S;refine rfa O F 0 rfl rfl S (Zl S rfl) fun f S=>rfa O F 1 rfl rfl S (Zl S rfl) fun f S=>rfa O F 2 rfl rfl S (Zh S rfl rfl (Zoc aa)) fun f S=>rfa O F 3 rfl rfl S (Zl S rfl) fun f S=>rfa O F 4 rfl rfl S (Zl S rfl) fun f S=>rfa O F 5 rfl rfl S (Zh S rfl rfl (ZTc N)) fun f S=>go1 O F 6 (nva [0,1,2] [3,4,5] O rfl rfl S (ZJa S rfl) fun f S=>⟨(py S rfl rfl (Zl S rfl) (py S rfl rfl (Zl S rfl) (py S rfl rfl (Zh S rfl rfl (ZTc N)) Zr))),go1 O F 7 (nva [0,1,2,3,4,5,6] [] O rfl rfl S (ZJa S rfl) fun f S=>⟨Zr,Z7 O F (Zb (aq _ _ ?_))⟩)⟩);refine wp_ret (ZQ ?_);obtain rfl:=Zi H;refine ZE S (Zua rfl (ZG S rfl) (ZG S rfl)) ⟨[.int .u64 (ar)],[.int .u64 (au)],rfl,(Zw (ZGf aa)),(Zw (Zpk r2 N))⟩
  have H:=Zz H s;refine ZH S rfl s (wp_skip (Zb (ap _ _ (Zj fun _ av=>?_))));obtain ⟨h,aw,H⟩:=Za H;refine Zo (mv S rfl fun f S=>opc S rfl (Zm S [.int .u64 (y)] Zdl rfl rfl) (Zcm S.vin (show Rep.rel (Zg .u64) _ [.int .u64 (y)] y from (Zw r3)) aw) ?_);rintro _ ab f w bd ⟨be,rfl,ax⟩ S;obtain ⟨rfl,bf⟩:=ax;refine ov S rfl (ZIa S rfl (ZTk _)) fun f S=>mw S rfl fun f S=>Zn (Zb (av _ _ (Zj fun _ ay=>?_)));obtain ⟨a,az,H⟩:=Za H;refine Zo (mv S rfl fun f S=>mv S rfl fun f S=>ov S rfl (Zh S rfl rfl (Z2d az)) fun f S=>mw S rfl fun f S=>Zn (Zb (ay _ _ (Zj fun _ aA=>?_))));obtain ⟨g,aB,H⟩:=Za H;refine Zo (mv S rfl fun f S=>ov S rfl (Zh S rfl rfl (Zzb aB)) fun f S=>mw S rfl fun f S=>Zn (Zb (aA _ _ (sr (mv S rfl fun f S=>ov S rfl (Zh S rfl rfl ZJd) fun f S=>mw S rfl fun f S=>oe (Zj fun _ aC=>?_))))));obtain ⟨i,aD,H⟩:=Za H;obtain ⟨j,aE,H⟩:=Za H;refine Zo (mv S rfl fun f S=>mv S rfl fun f S=>ov S rfl (Zh S rfl rfl (Z2d aD)) fun f S=>mv S rfl fun f S=>mv S rfl fun f S=>ov S rfl (Zh S rfl rfl ZWd) fun f S=>ov S rfl (Zh S rfl rfl (Zzb aE)) fun f S=>ov S rfl (Zh S rfl rfl Z1d) fun f S=>mw S rfl fun f S=>Zn ?_);have S:=S.fr' (σ':=[(1,.int .u64 (lo)),(2,.int .u64 (a)),(8,.int .u64 (IntKind.u64.wrap h)),(9,.int .u64 (g)),(10,.int .u64 (ZDa .u64 a ((4294967295 : Int)))),(11,.int .u64 (orI .u64 i j))]) rfl
  refine Zb (aC _ _ (Zj fun _ aF=>?_));obtain ⟨k,aG,H⟩:=Za H;refine Zo (mv S rfl fun f S=>mv S rfl fun f S=>ov S rfl (Zh S rfl rfl (Z2d aG)) fun f S=>mw S rfl fun f S=>Zn (Zb (aF _ _ (Zj fun _ aH=>?_))));obtain ⟨l,aI,H⟩:=Za H;refine Zo (mv S rfl fun f S=>ov S rfl (Zh S rfl rfl (Zzb aI)) fun f S=>mw S rfl fun f S=>Zn (Zb (aH _ _ (sr (mv S rfl fun f S=>ov S rfl (Zh S rfl rfl ZJd) fun f S=>mw S rfl fun f S=>oe (Zj fun _ aJ=>?_))))));obtain ⟨bg,ac,H⟩:=Za H;refine Zo (mv S rfl fun f S=>mv S rfl fun f S=>ov S rfl (Zh S rfl rfl (Zoc ac)) fun f S=>mw S rfl fun f S=>Zn (Zb (aJ _ _ (sr (mv S rfl fun f S=>mv S rfl fun f S=>mv S rfl fun f S=>ov S rfl (Zh S rfl rfl Zkc) fun f S=>ov S rfl (Zh S rfl rfl ZWd) fun f S=>mw S rfl fun f S=>?_)))));refine oe (Zj fun _ aK=>?_);obtain ⟨aL,aM,aN⟩:=Za H;refine ZU (fun f w=>∃ (d : Int) (u : Ze),d = aL ∧ Ze.le ab u ∧ St 135 e c [(2,.int .u64 (a)),(8,.int .u64 (IntKind.u64.wrap h)),(9,.int .u64 (g)),(10,.int .u64 (ZDa .u64 a ((4294967295 : Int)))),(11,.int .u64 (orI .u64 i j)),(13,.int .u64 (l)),(14,.int .u64 (ZDa .u64 k ((4294967295 : Int)))),(15,.int .u64 (d))] [] u f w ∧ inR .u64 d) (fun _ ad=>?_) ?_
  · have H:=aM;refine wp_block ?_;obtain ⟨bh,aO,ae⟩:=Za H;refine ZEa aO (fun aP f w=>∃ (m : Int) (n : Int) (G : Ze),(m,n) = aP ∧ Ze.le ab G ∧ St 135 e c [(2,.int .u64 (a)),(8,.int .u64 (IntKind.u64.wrap h)),(9,.int .u64 (g)),(10,.int .u64 (ZDa .u64 a ((4294967295 : Int)))),(11,.int .u64 (orI .u64 i j)),(13,.int .u64 (l)),(14,.int .u64 (ZDa .u64 k ((4294967295 : Int)))),(15,.int .u64 (m)),(16,.int .u64 (n))] [] G f w ∧ inR .u64 m ∧ inR .u64 n) ⟨_,_,_,rfl,(leR _),(S.fr' rfl),(ZGf ac),(Zva _ _)⟩ ?_;rintro _ f w st ⟨m,n,G,hq,P,S,aQ,bi⟩ H bj aR af;subst hq;refine Zj fun _ aS=>Zj fun _ aT=>?_;obtain ⟨aU,aV,aW⟩:=Za H;refine ZU (fun f w=>∃ (I : Bool) (Q : Ze),I = aU ∧ Ze.le G Q ∧ St 135 e c [(2,.int .u64 (a)),(8,.int .u64 (IntKind.u64.wrap h)),(9,.int .u64 (g)),(10,.int .u64 (ZDa .u64 a ((4294967295 : Int)))),(11,.int .u64 (orI .u64 i j)),(13,.int .u64 (l)),(14,.int .u64 (ZDa .u64 k ((4294967295 : Int)))),(15,.int .u64 (m)),(16,.int .u64 (n)),(78,.bool (I))] [] Q f w) (fun _ ag=>?_) ?_
    · have H:=aV;rcases Zx (decide ((4294967296 : Int) ≤ m)) with v | v
      · have H:=Zy H v;refine Zo (mv S rfl fun f S=>ov S rfl (Zh S rfl rfl ZKb) fun f S=>?_);have S:=S.bool (t:=68) rfl v;refine mv S rfl fun f S=>opn S rfl rfl rfl rfl fun f S=>opn S rfl rfl rfl rfl fun f S=>opn S rfl rfl rfl rfl fun f S=>opn S rfl rfl rfl rfl fun f S=>opn S rfl rfl rfl rfl fun f S=>opn S rfl rfl rfl rfl fun f S=>opn S rfl rfl rfl rfl fun f S=>opn S rfl rfl rfl rfl fun f S=>ov S rfl (Zu S (b:=true) rfl rfl) fun f S=>Zn ?_;obtain rfl:=Zi H;refine Zb (ag _ _ ⟨_,_,rfl,(leR _),(S.fr' rfl)⟩)
      have H:=Zz H v;refine Zo (mv S rfl fun f S=>ov S rfl (Zh S rfl rfl ZKb) fun f S=>?_);have S:=S.bool (t:=68) rfl v;refine mv S rfl fun f S=>opy S rfl rfl rfl rfl (Zl S rfl) fun f S=>opy S rfl rfl rfl rfl (Zl S rfl) fun f S=>opy S rfl rfl rfl rfl (Zh S rfl rfl Zkc) fun f S=>opy S rfl rfl rfl rfl (Zl S rfl) fun f S=>opy S rfl rfl rfl rfl (Zh S rfl rfl Zkc) fun f S=>opy S rfl rfl rfl rfl (Zl S rfl) fun f S=>opy S rfl rfl rfl rfl (Zh S rfl rfl ZSb) fun f S=>opy S rfl rfl rfl rfl (Zh S rfl rfl ZHa) fun f S=>ov S rfl (Zu S (b:=false) rfl rfl) fun f S=>Zn ?_;obtain rfl:=Zi H;refine Zb (ag _ _ ⟨_,_,rfl,(leR _),(S.fr' rfl)⟩)
    rintro f w ⟨I,Q,hq,R,S⟩;subst hq;have H:=aW;refine Zb (aT _ _ ?_);rcases Zx (I) with x | x
    · have H:=Zy H x;refine ZI S rfl x (wp_skip (Zb (aS _ _ (wp_block (sr (mv S rfl fun f S=>ov S rfl (Zh S rfl rfl ZWd) fun f S=>mw S rfl fun f S=>oe (sr (mv S rfl fun f S=>mv S rfl fun f S=>ov S rfl (Zh S rfl rfl ZSb) fun f S=>mw S rfl fun f S=>?_))))))));refine oe (sr (mv S rfl fun f S=>ov S rfl (Zh S rfl rfl ZKb) fun f S=>oe ?_));rcases Zx (decide ((4294967296 : Int) ≤ IntKind.u64.wrap (n + g))) with A | A
      · have H:=Zy H A;refine ZI S rfl A (wp_exit (Zvi rfl ?_));obtain rfl:=Zi H;have hq:=af _ rfl;subst hq;have H:=ae;refine Z2 (Zza ?_);obtain rfl:=Zi H;refine Zb (ad _ _ ⟨_,_,rfl,(leT (leT (leR _) P) R),(S.fr' rfl),(Zva _ _)⟩)
      have H:=Zz H A;refine ZH S rfl A (wp_skip (Zwa ?_));obtain rfl:=Zi H;refine aR _ rfl _ _ ⟨_,_,_,rfl,(leT P R),(S.fr' rfl),(Zva _ _),(Zva _ _)⟩
    have H:=Zz H x;refine ZH S rfl x (wp_exit (Z2 ?_));obtain rfl:=Zi H;have hq:=af _ rfl;subst hq;have H:=ae;refine Z2 (Zza ?_);obtain rfl:=Zi H;refine Zb (ad _ _ ⟨_,_,rfl,(leT (leT (leR _) P) R),(S.fr' rfl),aQ⟩)
  rintro f w ⟨d,u,hq,bk,S,bm⟩;subst hq;have H:=aN;refine Zb (aK _ _ (sr (mv S rfl fun f S=>ov S rfl (Zh S rfl rfl Zkc) fun f S=>mv S rfl fun f S=>ov S rfl (Zh S rfl rfl ZSb) fun f S=>mv S rfl fun f S=>mv S rfl fun f S=>ov S rfl (Zh S rfl rfl Zkc) fun f S=>ov S rfl (Zh S rfl rfl ZWd) fun f S=>mw S rfl fun f S=>oe (Zj fun _ aX=>?_))));obtain ⟨bn,ah,H⟩:=Za H;refine Zo (mv S rfl fun f S=>mv S rfl fun f S=>ov S rfl (Zh S rfl rfl (Zoc ah)) fun f S=>mw S rfl fun f S=>Zn (Zb (aX _ _ (sr (mv S rfl fun f S=>mv S rfl fun f S=>mv S rfl fun f S=>ov S rfl (Zh S rfl rfl Zkc) fun f S=>ov S rfl (Zh S rfl rfl ZWd) fun f S=>mw S rfl fun f S=>?_)))));refine oe (Zj fun _ aY=>?_);obtain ⟨aZ,a0,a1⟩:=Za H;refine ZU (fun f w=>∃ (B : Int) (T : Ze),B = aZ ∧ Ze.le u T ∧ St 135 e c [(2,.int .u64 (a)),(8,.int .u64 (IntKind.u64.wrap h)),(14,.int .u64 (ZDa .u64 k ((4294967295 : Int)))),(15,.int .u64 (d)),(17,.int .u64 (IntKind.u64.wrap ((IntKind.u64.wrap ((IntKind.u64.wrap ((orI .u64 i j) * ((4294967296 : Int)))) + l)) - (IntKind.u64.wrap (d * a))))),(18,.int .u64 (B))] [] T f w ∧ inR .u64 B) (fun _ ai=>?_) ?_
  · have H:=a0;refine wp_block ?_;obtain ⟨bo,a2,aj⟩:=Za H;refine ZEa a2 (fun a3 f w=>∃ (o : Int) (p : Int) (J : Ze),(o,p) = a3 ∧ Ze.le u J ∧ St 135 e c [(2,.int .u64 (a)),(8,.int .u64 (IntKind.u64.wrap h)),(9,.int .u64 (g)),(10,.int .u64 (ZDa .u64 a ((4294967295 : Int)))),(14,.int .u64 (ZDa .u64 k ((4294967295 : Int)))),(15,.int .u64 (d)),(16,.int .u64 (o)),(17,.int .u64 (IntKind.u64.wrap ((IntKind.u64.wrap ((IntKind.u64.wrap ((orI .u64 i j) * ((4294967296 : Int)))) + l)) - (IntKind.u64.wrap (d * a))))),(18,.int .u64 (p))] [] J f w ∧ inR .u64 o ∧ inR .u64 p) ⟨_,_,_,rfl,(leR _),(S.fr' rfl),(Zva _ _),(ZGf ah)⟩ ?_;rintro _ f w st ⟨o,p,J,hq,U,S,bp,a4⟩ H bq a5 ak;subst hq;refine Zj fun _ a6=>Zj fun _ a7=>?_;obtain ⟨a8,a9,ba⟩:=Za H;refine ZU (fun f w=>∃ (L : Bool) (V : Ze),L = a8 ∧ Ze.le J V ∧ St 135 e c [(2,.int .u64 (a)),(8,.int .u64 (IntKind.u64.wrap h)),(9,.int .u64 (g)),(10,.int .u64 (ZDa .u64 a ((4294967295 : Int)))),(14,.int .u64 (ZDa .u64 k ((4294967295 : Int)))),(15,.int .u64 (d)),(16,.int .u64 (o)),(17,.int .u64 (IntKind.u64.wrap ((IntKind.u64.wrap ((IntKind.u64.wrap ((orI .u64 i j) * ((4294967296 : Int)))) + l)) - (IntKind.u64.wrap (d * a))))),(18,.int .u64 (p)),(113,.bool (L))] [] V f w) (fun _ al=>?_) ?_
    · have H:=a9;rcases Zx (decide ((4294967296 : Int) ≤ p)) with C | C
      · have H:=Zy H C;refine Zo (mv S rfl fun f S=>ov S rfl (Zh S rfl rfl ZKb) fun f S=>?_);have S:=S.bool (t:=103) rfl C;refine mv S rfl fun f S=>opn S rfl rfl rfl rfl fun f S=>opn S rfl rfl rfl rfl fun f S=>opn S rfl rfl rfl rfl fun f S=>opn S rfl rfl rfl rfl fun f S=>opn S rfl rfl rfl rfl fun f S=>opn S rfl rfl rfl rfl fun f S=>opn S rfl rfl rfl rfl fun f S=>opn S rfl rfl rfl rfl fun f S=>ov S rfl (Zu S (b:=true) rfl rfl) fun f S=>Zn ?_;obtain rfl:=Zi H;refine Zb (al _ _ ⟨_,_,rfl,(leR _),(S.fr' rfl)⟩)
      have H:=Zz H C;refine Zo (mv S rfl fun f S=>ov S rfl (Zh S rfl rfl ZKb) fun f S=>?_);have S:=S.bool (t:=103) rfl C;refine mv S rfl fun f S=>opy S rfl rfl rfl rfl (Zl S rfl) fun f S=>opy S rfl rfl rfl rfl (Zl S rfl) fun f S=>opy S rfl rfl rfl rfl (Zh S rfl rfl Zkc) fun f S=>opy S rfl rfl rfl rfl (Zl S rfl) fun f S=>opy S rfl rfl rfl rfl (Zh S rfl rfl Zkc) fun f S=>opy S rfl rfl rfl rfl (Zl S rfl) fun f S=>opy S rfl rfl rfl rfl (Zh S rfl rfl ZSb) fun f S=>opy S rfl rfl rfl rfl (Zh S rfl rfl ZHa) fun f S=>ov S rfl (Zu S (b:=false) rfl rfl) fun f S=>Zn ?_;obtain rfl:=Zi H;refine Zb (al _ _ ⟨_,_,rfl,(leR _),(S.fr' rfl)⟩)
    rintro f w ⟨L,V,hq,W,S⟩;subst hq;have H:=ba;refine Zb (a7 _ _ ?_);rcases Zx (L) with D | D
    · have H:=Zy H D;refine ZI S rfl D (wp_skip (Zb (a6 _ _ (wp_block (sr (mv S rfl fun f S=>ov S rfl (Zh S rfl rfl ZWd) fun f S=>mw S rfl fun f S=>oe (sr (mv S rfl fun f S=>mv S rfl fun f S=>ov S rfl (Zh S rfl rfl ZSb) fun f S=>mw S rfl fun f S=>?_))))))));refine oe (sr (mv S rfl fun f S=>ov S rfl (Zh S rfl rfl ZKb) fun f S=>oe ?_));rcases Zx (decide ((4294967296 : Int) ≤ IntKind.u64.wrap (o + g))) with E | E
      · have H:=Zy H E;refine ZI S rfl E (wp_exit (Zvi rfl ?_));obtain rfl:=Zi H;have hq:=ak _ rfl;subst hq;have H:=aj;refine Z2 (Zza ?_);obtain rfl:=Zi H;refine Zb (ai _ _ ⟨_,_,rfl,(leT (leT (leR _) U) W),(S.fr' rfl),(Zva _ _)⟩)
      have H:=Zz H E;refine ZH S rfl E (wp_skip (Zwa ?_));obtain rfl:=Zi H;refine a5 _ rfl _ _ ⟨_,_,_,rfl,(leT U W),(S.fr' rfl),(Zva _ _),(Zva _ _)⟩
    have H:=Zz H D;refine ZH S rfl D (wp_exit (Z2 ?_));obtain rfl:=Zi H;have hq:=ak _ rfl;subst hq;have H:=aj;refine Z2 (Zza ?_);obtain rfl:=Zi H;refine Zb (ai _ _ ⟨_,_,rfl,(leT (leT (leR _) U) W),(S.fr' rfl),a4⟩)
  rintro f w ⟨B,T,hq,br,S,bt⟩;subst hq;have H:=a1;refine Zb (aY _ _ (Zj fun _ bb=>?_));obtain ⟨bc,am,H⟩:=Za H;refine Zo (mv S rfl fun f S=>ov S rfl (Zh S rfl rfl Zkc) fun f S=>mv S rfl fun f S=>ov S rfl (Zh S rfl rfl ZSb) fun f S=>mv S rfl fun f S=>ov S rfl (Zh S rfl rfl Zkc) fun f S=>mv S rfl fun f S=>ov S rfl (Zh S rfl rfl ZSb) fun f S=>mv S rfl fun f S=>mv S rfl fun f S=>ov S rfl (Zh S rfl rfl Zkc) fun f S=>ov S rfl (Zh S rfl rfl ZWd) fun f S=>mv S rfl fun f S=>?_);refine ov S rfl (Zh S rfl rfl (Zzb am)) fun f S=>mw S rfl fun f S=>mw S rfl fun f S=>Zn (Zb (bb _ _ (wp_ret ?_)));obtain rfl:=Zi H;refine ZE S (Zua rfl (ZG S rfl) (ZG S rfl)) ⟨[.int .u64 (IntKind.u64.wrap ((IntKind.u64.wrap (d * ((4294967296 : Int)))) + B))],[.int .u64 (bc)],rfl,(Zw (Zva _ _)),(Zw (Zde (Zva _ _) am))⟩
theorem Z5m {b : World} {a : Ze} (hv : VIn a b) {c : List Value} {hi : Int} (h : Rep.rel (Zg .u64) a c hi) {d : List Value} {lo : Int} (i : Rep.rel (Zg .u64) a d lo) {e : List Value} {y : Int} (j : Rep.rel (Zg .u64) a e y) {z : Int × Int} (hm : ZNd hi lo y = some z) :
    Ret Tryz.prog 105 #[(Zg .u64).val c,(Zg .u64).val d,(Zg .u64).val e] b a (fun y v'=>∃ f g,y = Value.tuple #[(Zg .u64).val f,(Zg .u64).val g] ∧ (Zg .u64).rel v' f z.1 ∧ (Zg .u64).rel v' g z.2) :=
  div64_w hv h i j (Zvp hm)
end Go.Eng
