/- Lemmas towards the statement: the engine of the walks, the functions' models, laws and walks, part 3. Conditions: as each states. -/
import Derived.Lib.AppendStr
import Derived.Lib.Builder
import Derived.Lib.UnsafeStr
import Derived.Test.YtmmnpljhffbjhaaGreatProg
import Derived.Test.YtmmnpljhffbjhaaGreatLbB
set_option linter.all false
set_option maxRecDepth 100000
namespace Go.Eng
theorem Z7j {B n : Nat} (hB : 2 ≤ B) (w : Nat) : (Zj B n).drop w = Zj B (n / B ^ w) := by
  induction w generalizing n with
  | zero => rw [List.drop_zero, Nat.pow_zero, Nat.div_one]
  | succ w ih =>
    by_cases h : n = 0
    · subst h; rw [ZVa, Nat.zero_div, ZVa]; rfl
    · rw [ZYc hB h, List.drop_succ_cons, ih, Nat.div_div_eq_div_mul, Nat.pow_succ, Nat.mul_comm B]
theorem Z3o {B n : Nat} (hB : 2 ≤ B) (w : Nat) (h : w ≤ (Zj B n).length) : val B ((Zj B n).take w) = n % B ^ w := by
  have h1 := ZId B (Zj B n) w h; rw [Zab hB, Zpm hB] at h1; have h2 := Nat.mod_add_div n (B ^ w); omega
theorem Z3k {B n i : Nat} (hB : 2 ≤ B) (h : i < (Zj B n).length) : idx (Zj B n) (i : Int) = some ((n / B ^ i % B : Nat) : Int) := by
  rw [Zaa h]; congr 1; have h1 := List.drop_eq_getElem_cons h; rw [Z7j hB] at h1; have h2 : n / B ^ i ≠ 0 := by
    intro h2; rw [h2, ZVa] at h1
    cases h1
  rw [ZYc hB h2] at h1; exact (List.cons.inj h1).1.symm
theorem Zaq {B n L : Nat} (hB : 2 ≤ B) (h1 : B ^ L ≤ n) (h2 : n < B ^ (L + 1)) : (Zj B n).length = L + 1 := by
  have h3 := Zdf hB h2; have h4 := Z0c hB n; have h5 : ¬ (Zj B n).length ≤ L := by
    intro h5; have := Nat.pow_le_pow_right (n := B) (by omega) h5; omega
  omega
theorem Z8k {n m : Nat} : decide (Z9a n m < 0) = decide (n < m) := by
  unfold Z9a; by_cases h : n < m
  · rw [if_pos h, decide_eq_true h]; rfl
  · rw [if_neg h, decide_eq_false h]; split <;> rfl
theorem ZNm {n m : Nat} : decide (0 < Z9a n m) = decide (m < n) := by
  unfold Z9a; by_cases h : n < m
  · rw [if_pos h, decide_eq_false (show ¬ m < n by omega)]; rfl
  · rw [if_neg h]; by_cases h2 : m < n
    · rw [if_pos h2, decide_eq_true h2]; rfl
    · rw [if_neg h2, decide_eq_false h2]; rfl
theorem Zjg {n k : Nat} (h : n < 4294967296 ^ k) : (Zj 4294967296 n).length ≤ k := Zdf (by decide) h
theorem quo_end {a b q R rest : Nat} (hb : 0 < b) (hR : 0 < R) (h : rest < b * R) (e : a * R = rest + b * R * q) : q = a / b ∧ rest / R = a % b := by
  have h1 : a * R / (b * R) = q := by rw [e, Nat.add_mul_div_left _ _ (Nat.mul_pos hb hR), Nat.div_eq_of_lt h, Nat.zero_add]
  rw [Nat.mul_div_mul_right _ _ hR] at h1; have h2 : a * R % (b * R) = rest := by rw [e, Nat.add_mul_mod_self_left, Nat.mod_eq_of_lt h]
  rw [Nat.mul_mod_mul_right] at h2; exact ⟨h1.symm, by rw [← h2, Nat.mul_div_cancel _ hR]⟩
theorem ZUq {a b : Nat} (ha : Zcb a) (hb : Zcb b) (hb0 : b ≠ 0) : Zgh a b = some (a / b, a % b) := by
  unfold Zgh ZHd; rw [Ze, Z8k]; by_cases hab : a < b
  · rw [decide_eq_true hab, ZF, Nat.div_eq_of_lt hab, Nat.mod_eq_of_lt hab]
  rw [decide_eq_false hab, ZD]; unfold Zcb at ha hb; have hLpos := List.length_pos_iff.2 ((ZFc (n := b) (B := 4294967296) (by decide)).2 hb0); by_cases hL1 : (Zj 4294967296 b).length = 1
  · rw [hL1]; have hb1 : b < 4294967296 := by
      have := Z0c (B := 4294967296) (by decide) b; rw [hL1] at this; simpa using this
    rw [show (((1 : Nat) : Int) == 1) = true from rfl, ZF, Zkk (by decide) hb0 hb1, Ze]; unfold Zye ZAd; rw [if_pos ⟨by unfold ZLa; omega, by omega⟩, Ze]; simp only [Int.toNat_natCast]; have hm := Nat.mod_lt a (Nat.pos_of_ne_zero hb0); rw [ZJb (by omega), Int.toNat_natCast]; rfl
  have e1 : (((Zj 4294967296 b).length : Int) == 1) = false := beq_false_of_ne (by omega); rw [e1, ZD]; obtain ⟨l, hl⟩ : ∃ l, (Zj 4294967296 b).length = l + 1 := ⟨(Zj 4294967296 b).length - 1, by omega⟩; have hbge : 4294967296 ^ l ≤ b := by have := Zhh (B := 4294967296) (by decide) hb0; rw [hl] at this; simpa using this
  have hblt : b < 4294967296 ^ (l + 1) := by have := Z0c (B := 4294967296) (by decide) b; rwa [hl] at this
  have hp : ∀ k, (4294967296 : Nat) ^ k = 2 ^ (32 * k) := fun k => by rw [Nat.pow_mul]
  obtain ⟨c, hc⟩ := Z6e hb0; obtain ⟨hc1, hc2⟩ := (Z0e hb0).1 hc; have hcl : 32 * l ≤ c := by
    have h1 : 2 ^ (32 * l) < 2 ^ (c + 1) := by rw [← hp]; omega
    have := (Nat.pow_lt_pow_iff_right (by omega : 1 < 2)).1 h1; omega
  have hcu : c + 1 ≤ 32 * (l + 1) := by
    have h1 : 2 ^ c < 2 ^ (32 * (l + 1)) := by rw [← hp]; omega
    have := (Nat.pow_lt_pow_iff_right (by omega : 1 < 2)).1 h1; omega
  obtain ⟨up, hup⟩ : ∃ up, up + (c + 1) = 32 * (l + 1) := ⟨32 * (l + 1) - (c + 1), by omega⟩; have hup31 : up ≤ 31 := by omega
  have hR : 0 < 2 ^ up := Nat.pow_pos (by omega); have hR31 : 2 ^ up ≤ 2147483648 := Nat.le_trans (Nat.pow_le_pow_right (by omega) hup31) (by decide); have c1 : chk .i64 (32 * ((l + 1 : Nat) : Int)) = some ((32 * (l + 1) : Nat) : Int) := by rw [show (32 * ((l + 1 : Nat) : Int)) = ((32 * (l + 1) : Nat) : Int) by omega, Zgb (by omega)]
  have c2 : ZTf b = some (((c + 1 : Nat)) : Int) := by unfold ZTf; rw [if_pos (by unfold ZLa; omega), hc]
  have c3 : chk .i64 (((32 * (l + 1) : Nat) : Int) - ((c + 1 : Nat) : Int)) = some (up : Int) := by rw [show ((32 * (l + 1) : Nat) : Int) - ((c + 1 : Nat) : Int) = (up : Int) by omega, Zgb (by omega)]
  have c4 : Zpe b (up : Int) = some (b * 2 ^ up) := by unfold Zpe; rw [if_pos ⟨by unfold ZLa; omega, by omega, by omega⟩, Int.toNat_natCast]
  have c5 : Zpe a (up : Int) = some (a * 2 ^ up) := by unfold Zpe; rw [if_pos ⟨by unfold ZLa; omega, by omega, by omega⟩, Int.toNat_natCast]
  rw [hl, c1, Ze, c2, Ze, c3, Ze, c4, Ze, c5, Ze]; have hv1 : 2 ^ (32 * l + 31) ≤ b * 2 ^ up := by
    have h1 := Nat.mul_le_mul_right (2 ^ up) hc1; rw [← Nat.pow_add] at h1; have h2 : c + up = 32 * l + 31 := by omega
    rw [h2] at h1; exact h1
  have hv2 : b * 2 ^ up < 4294967296 ^ (l + 1) := by
    have h1 := Nat.mul_lt_mul_of_pos_right hc2 hR; rw [← Nat.pow_add] at h1; have h2 : c + 1 + up = 32 * (l + 1) := by omega
    rw [h2, ← hp] at h1; exact h1
  have hvge : 4294967296 ^ l * 2147483648 ≤ b * 2 ^ up := by
    rw [hp, show (2147483648 : Nat) = 2 ^ 31 from rfl, ← Nat.pow_add]; exact hv1
  have hdm : ∀ n q : Nat, q ≠ 0 → n = q * (n / q) + n % q ∧ n % q < q := fun n q h => ⟨(Nat.div_add_mod n q).symm, Nat.mod_lt _ (by omega)⟩; obtain ⟨v, hv⟩ : ∃ v, v = b * 2 ^ up := ⟨_, rfl⟩; rw [← hv] at hv1 hv2 hvge ⊢; have hBl : 0 < 4294967296 ^ l := Nat.pow_pos (by omega); have hlv : (Zj 4294967296 v).length = l + 1 := Zaq (by decide) (by omega) hv2; have hv0 : 0 < v := by omega
  obtain ⟨M, hM⟩ : ∃ M, M = (Zj 4294967296 a).length := ⟨_, rfl⟩; have hML : l + 1 ≤ M := by rw [hM, ← hl]; exact Zqd (by decide) (by omega)
  have haM : a < 4294967296 ^ M := by rw [hM]; exact Z0c (by decide) a
  rw [hlv, ← hM]; rw [← hM] at ha; have c6 : chk .i64 ((M : Int) - ((l + 1 : Nat) : Int)) = some ((M - (l + 1) : Nat) : Int) := by rw [show (M : Int) - ((l + 1 : Nat) : Int) = ((M - (l + 1) : Nat) : Int) by omega, Zgb (by omega)]
  obtain ⟨K, hK⟩ : ∃ K, K + (l + 1) = M + 2 := ⟨M - (l + 1) + 2, by omega⟩; have c7 : chk .i64 (((M - (l + 1) : Nat) : Int) + 2) = some (K : Int) := by rw [show ((M - (l + 1) : Nat) : Int) + 2 = (K : Int) by omega, Zgb (by omega)]
  obtain ⟨u, hu⟩ := Zsd (b := 4) (l := (K : Int)) (c := (K : Int)) (by omega) (by omega) (by omega) (by omega); rw [c6, Ze, c7, Ze, hu, Ze, Int.toNat_natCast, List.length_replicate, Zma (by omega) (by omega), Ze, ZQa]; obtain ⟨ra, hra⟩ : ∃ ra, ra = a * 2 ^ up := ⟨_, rfl⟩; rw [← hra]; have hraM : ra < 4294967296 ^ (M + 1) := by
    rw [hra, Nat.pow_succ]; exact Nat.mul_lt_mul'' haM (by omega)
  have hra0 : ra < v * 4294967296 ^ K := by
    have h1 : 4294967296 ^ l * 2147483648 * 4294967296 ^ K ≤ v * 4294967296 ^ K := Nat.mul_le_mul_right _ hvge; have h2 : 4294967296 ^ l * 2147483648 * 4294967296 ^ K = 4294967296 ^ (M + 1) * 2147483648 := by
      rw [Nat.mul_right_comm, ← Nat.pow_add, show l + K = M + 1 by omega]
    omega
  refine Zeb (fun s : Nat × (List Int) × Int => ∃ k : Nat, s.2.2 = (k : Int) - 1 ∧ k ≤ K ∧ s.2.1.length = K ∧ Dig 4294967296 s.2.1 ∧ (∀ i (h : i < s.2.1.length), i < k → s.2.1[i] = 0) ∧
      s.1 < v * 4294967296 ^ k ∧ s.1 ≤ ra ∧ ra = s.1 + v * (4294967296 ^ k * val 4294967296 (s.2.1.drop k))) (fun s => (s.2.2 + 1).toNat)
    (fun r : Nat × List Int => r.1 < v ∧ r.1 ≤ ra ∧ ra = r.1 + v * val 4294967296 r.2) ⟨K, rfl, by omega, by simp, Dig.replicate _ (by omega), by intro i h _; simp, hra0, Nat.le_refl _, by simp [List.drop_eq_nil_of_le, val]⟩ (ZMa (by simp; omega)) ?_ ?_
  · rintro ⟨rest, out, j⟩ ⟨k, hj, hk, ho, hd, hz, hlt, hle, he⟩; simp only at hj ho hd hz hlt hle he ⊢; subst hj; by_cases hk0 : k = 0
    · right; subst hk0; rw [show decide ((0 : Int) ≤ ((0 : Nat) : Int) - 1) = false from rfl, ZD]; refine ⟨_, rfl, by simpa using hlt, hle, by simpa using he⟩
    left; obtain ⟨j, rfl⟩ : ∃ j, k = j + 1 := ⟨k - 1, by omega⟩; have ej : ((j + 1 : Nat) : Int) - 1 = (j : Int) := by omega
    rw [ej, decide_eq_true (show (0 : Int) ≤ (j : Int) by omega), ZF]; have hjo : j < out.length := by omega
    have cA : ifb (decide ((j : Int) < ((Zj 4294967296 rest).length : Int))) (bnd (ZKb (Zj 4294967296 rest) (j : Int) ((Zj 4294967296 rest).length : Int)) fun y654 => some y654) (some ([] : List Int)) = some (Zj 4294967296 (rest / 4294967296 ^ j)) := by
      rw [← Z7j (by decide)]; by_cases h : j < (Zj 4294967296 rest).length
      · rw [decide_eq_true (by omega), ZF]; have : ZKb (Zj 4294967296 rest) (j : Int) ((Zj 4294967296 rest).length : Int) = some ((Zj 4294967296 rest).drop j) := by
          unfold ZKb; rw [if_pos ⟨by omega, by omega, by omega⟩]; simp
        rw [this, Ze]
      · rw [decide_eq_false (by omega), ZD, List.drop_eq_nil_of_le (by omega)]
    rw [cA, Ze, Zcn, Ze, Ze, Z8k]; obtain ⟨p, hpp⟩ : ∃ p, p = rest / 4294967296 ^ j := ⟨_, rfl⟩; rw [← hpp]; have hBj : 0 < 4294967296 ^ j := Nat.pow_pos (by omega); have hrp := Nat.div_add_mod rest (4294967296 ^ j); have hrm := Nat.mod_lt rest hBj; rw [← hpp] at hrp; have hpv : p < v * 4294967296 := by
      rw [hpp, Nat.div_lt_iff_lt_mul hBj]; rw [Nat.pow_succ] at hlt; rw [Nat.mul_assoc, Nat.mul_comm 4294967296]; exact hlt
    have cz : out[j] = 0 := hz j hjo (by omega); have hdrop : val 4294967296 (out.drop j) = 4294967296 * val 4294967296 (out.drop (j + 1)) := by rw [ZEc hjo, cz]; simp
    have cend : chk .i64 ((j : Int) - 1) = some ((j : Int) - 1) := Zma (by omega) (by omega); by_cases hpl : p < v
    · rw [decide_eq_true hpl, ZF, Ze]; simp only; rw [cend, Ze]; refine ⟨_, rfl, ⟨j, rfl, by omega, ho, hd, fun i h hi => hz i h (by omega), ?_, hle, ?_⟩, by simp⟩
      · have := Nat.mul_le_mul_left (4294967296 ^ j) (show p + 1 ≤ v by omega); rw [Nat.mul_add, Nat.mul_comm (4294967296 ^ j) v] at this; simp only; omega
      · simp only; rw [hdrop, he, Nat.pow_succ]; grind
    rw [decide_eq_false hpl, ZD]; have hp1 : p < 4294967296 ^ (l + 1 + 1) := by
      rw [Nat.pow_succ]; exact Nat.lt_trans hpv (Nat.mul_lt_mul_of_pos_right hv2 (by omega))
    have hplen1 := Zjg hp1; have hplen0 : l + 1 ≤ (Zj 4294967296 p).length := by rw [← hlv]; exact Zqd (by decide) (by omega)
    have cl : chk .i64 (((l + 1 : Nat) : Int) - 1) = some (l : Int) := by rw [show ((l + 1 : Nat) : Int) - 1 = (l : Int) by omega, Zgb (by omega)]
    rw [cl, Ze, Z3k (by decide) (by omega : l < (Zj 4294967296 p).length), Ze]; obtain ⟨h, hh⟩ : ∃ h, h = p / 4294967296 ^ l := ⟨_, rfl⟩; have hh64 : h < 18446744073709551616 := by
      rw [hh]; apply Nat.div_lt_of_lt_mul; rw [Nat.pow_succ, Nat.pow_succ] at hp1; rw [show (18446744073709551616 : Nat) = 4294967296 * 4294967296 from rfl, ← Nat.mul_assoc]; exact hp1
    rw [← hh]; have cH : ifb (decide (((l + 1 : Nat) : Int) < ((Zj 4294967296 p).length : Int))) (bnd (idx (Zj 4294967296 p) ((l + 1 : Nat) : Int)) fun y641 => bnd (Z6b .u64 (IntKind.u64.wrap y641) 32) fun y647 => some (orI .u64 (IntKind.u64.wrap ((h % 4294967296 : Nat) : Int)) y647)) (some (IntKind.u64.wrap ((h % 4294967296 : Nat) : Int))) = some (h : Int) := by
      rw [ZJb (by omega)]; have hhd : p / 4294967296 ^ (l + 1) = h / 4294967296 := by rw [hh, Nat.div_div_eq_div_mul, Nat.pow_succ]
      by_cases hq : l + 1 < (Zj 4294967296 p).length
      · rw [decide_eq_true (by omega), ZF, Z3k (by decide) hq, Ze, hhd, ZJb (by omega)]; have hx : h / 4294967296 % 4294967296 = h / 4294967296 := Nat.mod_eq_of_lt (by omega); rw [hx]; have e1 : Z6b .u64 ((h / 4294967296 : Nat) : Int) 32 = some ((h / 4294967296 * 2 ^ 32 : Nat) : Int) := by
          have := Zhe (x := h / 4294967296) (k := 32) (by omega); rw [Nat.mod_eq_of_lt (by omega)] at this; exact this
        have e2 : orI .u64 ((h % 4294967296 : Nat) : Int) ((h / 4294967296 * 2 ^ 32 : Nat) : Int) = (h : Int) := by
          have hc : orI .u64 ((h % 4294967296 : Nat) : Int) ((h / 4294967296 * 2 ^ 32 : Nat) : Int) = orI .u64 ((h / 4294967296 * 2 ^ 32 : Nat) : Int) ((h % 4294967296 : Nat) : Int) := by unfold orI; rw [BitVec.or_comm]
          rw [hc, Zlf (k := 32) (by omega) (by omega)]; exact congrArg (fun q : Nat => (q : Int)) (by omega)
        rw [e1, Ze, e2]
      · rw [decide_eq_false (by omega), ZD]; have h0 : p / 4294967296 ^ (l + 1) = 0 := Nat.div_eq_of_lt (by
          have := Z0c (B := 4294967296) (by decide) p; have e : (Zj 4294967296 p).length = l + 1 := by omega
          rwa [e] at this)
        rw [hhd] at h0; exact congrArg (fun q : Nat => some (q : Int)) (by omega)
    rw [cH, Ze, Ze, Z3k (by decide) (by omega : l < (Zj 4294967296 v).length), Ze]; obtain ⟨t, ht⟩ : ∃ t, t = v / 4294967296 ^ l := ⟨_, rfl⟩; have ht1 : 2147483648 ≤ t := by rw [ht, Nat.le_div_iff_mul_le hBl, Nat.mul_comm]; exact hvge
    have ht2 : t < 4294967296 := by rw [ht]; apply Nat.div_lt_of_lt_mul; rw [Nat.pow_succ] at hv2; exact hv2
    rw [← ht, Nat.mod_eq_of_lt ht2, ZJb (by omega), Z1f (by omega) hh64, Ze]; have hq0 : p / v ≤ h / t := by
      rw [hh, ht, Nat.div_div_eq_div_mul]; apply Nat.div_le_div_left
      · exact Nat.mul_div_le v (4294967296 ^ l)
      · exact Nat.mul_pos hBl (by rw [← ht]; omega)
    have hqB : p / v < 4294967296 := (Nat.div_lt_iff_lt_mul hv0).2 (by rw [Nat.mul_comm]; exact hpv); obtain ⟨q, hq⟩ : ∃ q, q = p / v := ⟨_, rfl⟩; rw [← hq] at hq0 hqB; have hpq := Nat.div_add_mod p v; have hpr := Nat.mod_lt p hv0; rw [← hq] at hpq; obtain ⟨g, hg1, hg2, cG⟩ : ∃ g : Nat, q ≤ g ∧ g < 4294967296 ∧ ifb (decide ((4294967295 : Int) < ((h / t : Nat) : Int))) (some (4294967295 : Int)) (some ((h / t : Nat) : Int)) = some (g : Int) := by
      by_cases hx : 4294967295 < h / t
      · exact ⟨4294967295, by omega, by omega, by rw [decide_eq_true (by omega), ZF]; rfl⟩
      · exact ⟨h / t, hq0, by omega, by rw [decide_eq_false (by omega), ZD]⟩
    have okp : ∀ n, n < 4294967296 ^ (l + 1 + 1) → ZLa n := fun n hn => by unfold ZLa; have := Zjg hn; omega
    have hvg : ∀ x, x < 4294967296 → v * x < 4294967296 ^ (l + 1 + 1) := fun x hx => by rw [Nat.pow_succ]; exact Nat.mul_lt_mul'' hv2 hx
    have okg : ZLa g := by
      unfold ZLa; have := Zjg (n := g) (k := 1) (by simpa using hg2); omega
    have okv : ZLa v := by unfold ZLa; omega
    have cN : ZAd (g : Int) = some g := by unfold ZAd; rw [Int.toNat_natCast]
    have cP : Zfb v g = some (v * g) := by unfold Zfb; rw [if_pos ⟨okv, okg⟩]
    rw [cG, Ze, cN, Ze, cP, Ze, ZQa, ZQa]; refine Zrk (s := ((g : Int), v * g)) (fun s : Int × Nat => ∃ x : Nat, s.1 = (x : Int) ∧ s.2 = v * x ∧ q ≤ x ∧ x < 4294967296) (fun s => s.1.toNat) (fun r : Int × Nat => r = ((q : Int), v * q)) ⟨g, rfl, rfl, hg1, hg2⟩ (ZMa (by simp; omega)) ?_ ?_
    · rintro ⟨x, y⟩ ⟨x, rfl, rfl, hx1, hx2⟩; simp only; rw [Ze, Ze, ZNm]; by_cases hxp : p < v * x
      · left; have hx0 : q < x := by
          rcases Nat.lt_or_ge q x with h' | h'
          · exact h'
          · have := Nat.mul_le_mul_left v h'; omega
        have cD : ZMc (v * x) v = some (v * (x - 1)) := by
          unfold ZMc; have hle : v * 1 ≤ v * x := Nat.mul_le_mul_left v (by omega); rw [if_pos ⟨okp _ (hvg x hx2), by omega⟩, Nat.mul_sub, Nat.mul_one]
        have cW : IntKind.u64.wrap ((x : Int) - 1) = ((x - 1 : Nat) : Int) := by rw [show (x : Int) - 1 = ((x - 1 : Nat) : Int) by omega, ZJb (by omega)]
        rw [decide_eq_true hxp, ZF, cD, Ze, cW]; exact ⟨_, rfl, ⟨x - 1, rfl, rfl, by omega, by omega⟩, by simp; omega⟩
      · right; have hxq : x = q := by
          have h1 : x ≤ p / v := (Nat.le_div_iff_mul_le hv0).2 (by rw [Nat.mul_comm]; omega); omega
        subst hxq; rw [decide_eq_false hxp, ZD]; exact ⟨_, rfl, rfl⟩
    · rintro _ rfl; rw [Ze]; simp only; have hjr : j < (Zj 4294967296 rest).length := by
        rcases Nat.lt_or_ge j (Zj 4294967296 rest).length with h' | h'
        · exact h'
        · have h1 : (Zj 4294967296 rest).drop j = [] := List.drop_eq_nil_of_le h'; rw [Z7j (by decide), ← hpp] at h1; have := (ZQf (B := 4294967296) (by decide)).1 h1; omega
      have hrl : (Zj 4294967296 rest).length ≤ M + 1 := by
        have := Zqd (B := 4294967296) (by decide) hle; have := Zjg hraM; omega
      have cC : ZKb (Zj 4294967296 rest) 0 (j : Int) = some ((Zj 4294967296 rest).take j) := by
        unfold ZKb; rw [if_pos ⟨by omega, by omega, by omega⟩]; simp
      obtain ⟨r, hr⟩ : ∃ r, r = p % v := ⟨_, rfl⟩; rw [← hr] at hpq hpr; have cD : ZMc p (v * q) = some r := by
        unfold ZMc; rw [if_pos ⟨okp p hp1, by omega⟩]; exact congrArg some (by omega)
      have htl : ((Zj 4294967296 rest).take j).length = j := by rw [List.length_take]; omega
      have hrlen : (Zj 4294967296 r).length ≤ l + 1 := by rw [← hlv]; exact Zqd (by decide) (by omega)
      rw [Zaa hjo, Ze, cC, Ze, Z9d (by simp only [List.nil_append, htl]; omega), Ze, Ze, cD, Ze, Z9d (by simp only [List.nil_append, List.length_append, htl]; omega), Ze]; unfold Zbc; rw [Ze, Ze, List.nil_append, Zld, htl, Zab (by decide), Z3o (by decide) _ (by omega)]; have cW : IntKind.u32.wrap (q : Int) = (q : Int) := by rw [wrap_u32]; omega
      rw [cW, Int.toNat_natCast]; simp only; rw [cend, Ze]; have hnew : rest % 4294967296 ^ j + 4294967296 ^ j * r + v * (4294967296 ^ j * q) = rest := by
        rw [← hrp, ← hpq]; grind
      refine ⟨_, rfl, ⟨j, rfl, by omega, by simp [ho], hd.set _ (by omega), fun i hi hij => ?_, ?_, ?_, ?_⟩, by simp⟩
      · simp only at hi ⊢; rw [List.getElem_set_ne (by omega)]; exact hz i (by simpa using hi) (by omega)
      · simp only; have := Nat.mul_le_mul_left (4294967296 ^ j) (show r + 1 ≤ v by omega); rw [Nat.mul_add, Nat.mul_comm (4294967296 ^ j) v] at this; omega
      · simp only; omega
      · simp only; have e6 : (out.set j (q : Int)).drop j = (q : Int) :: out.drop (j + 1) := by
          rw [List.drop_eq_getElem_cons (by simpa using hjo), List.getElem_set_self, List.drop_set_of_lt (by omega)]
        rw [e6]; simp only [val, Int.toNat_natCast]; rw [he]
        conv => lhs; rw [← hnew]
        rw [Nat.pow_succ]; grind
  · rintro ⟨rest, out⟩ ⟨h1, h2, h3⟩; simp only at h1 h2 h3 ⊢; rw [Ze]; simp only; unfold Zbc; have hrl : (Zj 4294967296 rest).length ≤ M + 1 := by
      have := Zqd (B := 4294967296) (by decide) h2; have := Zjg hraM; omega
    have cL : Z6f rest (up : Int) = some (rest / 2 ^ up) := by unfold Z6f; rw [if_pos ⟨by unfold ZLa; omega, by omega⟩, Int.toNat_natCast]
    rw [Ze, cL, Ze]; rw [hv] at h1 h3; rw [hra] at h3; obtain ⟨e1, e2⟩ := quo_end (Nat.pos_of_ne_zero hb0) hR h1 h3; rw [e1, e2]
theorem ZCo {n m : Nat} {z : Nat × Nat} (h : ZWc n m = some z) : Zgh n m = some z := by
  unfold ZWc at h; split at h
  · rename_i hh; rw [ZUq hh.1 hh.2.1 hh.2.2, h]
  · cases h
noncomputable def Zxh (a : Nat) (b : Nat) : Option (Nat) :=
 bnd (bnd (Z1 (fun s : Nat × Nat => match s with
 | (d, c) =>
 (ifb (decide ((0 : Int) < (((Zj 4294967296 c)).length : Int)))
 (bnd (ZWc d c) fun e =>
 some (.inl ((c, e.2))))
 (some (.inr d)))) Zga ((a, b)))
 (fun (f : Nat) =>
 (some f)))
 (fun (g : Nat) =>
 (some g))
noncomputable def Zci (s : Bool) (n : Nat) (d : Nat) : Option (Rat) :=
 ifb (((((Zj 4294967296 n)).length : Int)) == ((0 : Int)))
 (bnd (Ztc ([(1 : Int)])) fun b =>
 bnd (ZWe false ((0 : Nat)) b) fun c =>
 some c)
 (bnd (rgcF n d) fun a =>
 bnd (ZWc n a) fun e =>
 bnd (ZWc d a) fun f =>
 bnd (ZWe s e.1 f.1) fun g =>
 some g)
theorem Z6j {n m : Nat} (h : n ≤ m) (hm : Zcb m) : Zcb n := by
  have := Zqd (B := 4294967296) (by decide) h; unfold Zcb at *; omega
theorem ZFk {n : Nat} (h : Zcb n) : bl n ≤ 2199023255552 := by
  unfold Zcb at h; have h1 := Z0c (B := 4294967296) (by decide) n; have h2 : 4294967296 ^ (Zj 4294967296 n).length = 2 ^ (32 * (Zj 4294967296 n).length) := by rw [Nat.pow_mul]
  rw [h2] at h1; have := Zsc h1; omega
theorem sm32_of {n k : Nat} (h : bl n ≤ 32 * k) (hk : k ≤ 68719476736) : Zcb n := by
  unfold Zcb; refine Nat.le_trans (Zdf (B := 4294967296) (k := k) (by decide) ?_) hk; have h1 := ZOe n; have h2 : 4294967296 ^ k = 2 ^ (32 * k) := by rw [Nat.pow_mul]
  rw [h2]; exact Nat.lt_of_lt_of_le h1 (Nat.pow_le_pow_right (by omega) h)
theorem ZNl {n : Nat} (h : bl n ≤ 2199023255552) : Zcb n := sm32_of (k := (bl n + 31) / 32) (by omega) (by omega)
theorem rgcd_eq {n m : Nat} (hn : Zcb n) (hm : Zcb m) : Zxh n m = some (Nat.gcd n m) := by
  unfold Zxh; rw [ZQa]; refine Zeb (fun s : Nat × Nat => Zcb s.1 ∧ Zcb s.2 ∧ Nat.gcd s.1 s.2 = Nat.gcd n m) (fun s => 2 * (bl s.1 + bl s.2) + if s.1 < s.2 then 1 else 0) (fun r : Nat => r = Nat.gcd n m) ⟨hn, hm, rfl⟩
    (ZMa (by have := ZFk hn; have := ZFk hm; simp only; split <;> omega)) ?_ ?_
  · rintro ⟨a, b⟩ ⟨ha, hb, hg⟩; simp only at ha hb hg ⊢; rw [Zyk]; by_cases h0 : b = 0
    · right; subst h0; exact ⟨_, rfl, by rw [← hg, Nat.gcd_zero_right]⟩
    · left; have h1 : ZWc a b = some (a / b, a % b) := by unfold ZWc; rw [if_pos ⟨ha, hb, h0⟩]
      have hlt : a % b < b := Nat.mod_lt _ (by omega); rw [decide_eq_true h0, ZF, h1, Ze]; refine ⟨_, rfl, ⟨hb, Z6j (Nat.le_of_lt hlt) hb, ?_⟩, ?_⟩
      · rw [← hg]; simp only; rw [Nat.gcd_comm b, ← Nat.gcd_rec, Nat.gcd_comm]
      · simp only; rw [if_neg (by omega)]; by_cases hab : a < b
        · rw [if_pos hab, Nat.mod_eq_of_lt hab]; omega
        · have := ZTm (a := a) (b := b) (by omega) h0; rw [if_neg hab]; omega
  · rintro r rfl; rw [Ze]
theorem rgcF_eq {n m z : Nat} (h : rgcF n m = some z) : Zxh n m = some z := by
  unfold rgcF at h; split at h
  · rename_i hh; rw [rgcd_eq hh.1 hh.2, h]
  · cases h
theorem Zbp {s : Bool} {n d : Nat} (hn : n ≠ 0) (hd : d ≠ 0) : decide ((mkRat (sgn s n) d).num < 0) = s ∧ (mkRat (sgn s n) d).num.natAbs = n / Nat.gcd n d ∧ (mkRat (sgn s n) d).den = d / Nat.gcd n d := by
  have e0 : (sgn s n).natAbs = n := by unfold sgn; split <;> omega
  have hg : 0 < Nat.gcd n d := Nat.gcd_pos_of_pos_left _ (Nat.pos_of_ne_zero hn); have hnum : (mkRat (sgn s n) d).num = sgn s n / (Nat.gcd n d : Int) := by rw [Rat.num_mkRat, Nat.gcd_comm, e0]; simp [hd, Nat.gcd_comm]
  have hden : (mkRat (sgn s n) d).den = d / Nat.gcd n d := by rw [Rat.den_mkRat, e0]; simp [hd, Nat.gcd_comm]
  obtain ⟨k, hk⟩ := Nat.gcd_dvd_left n d; have hk0 : k ≠ 0 := by rintro rfl; simp at hk; exact hn hk
  have hq : sgn s n / (Nat.gcd n d : Int) = sgn s k := by
    have : sgn s n = sgn s k * (Nat.gcd n d : Int) := by
      unfold sgn
      conv => lhs; rw [hk]
      split <;> grind
    rw [this, Int.mul_ediv_cancel _ (by omega)]
  have hnk : n / Nat.gcd n d = k := Nat.div_eq_of_eq_mul_right hg hk; rw [hnum, hq, hnk]; refine ⟨?_, by unfold sgn; split <;> omega, hden⟩
  cases s
  · apply decide_eq_false; simp only [sgn]; simp
  · apply decide_eq_true; simp only [sgn]; simp; omega
theorem Z5q {s : Bool} {n d : Nat} (hn : n ≠ 0) (hd : d ≠ 0) : ZWe s (n / Nat.gcd n d) (d / Nat.gcd n d) = some (mkRat (sgn s n) d) := by
  obtain ⟨h1, h2, h3⟩ := Zbp (s := s) hn hd; have := ZBm (mkRat (sgn s n) d); rw [h1, h2, h3] at this; exact this
theorem Zjr : ZWe false 0 1 = some 0 := ZBm 0
theorem ZYo {s : Bool} {n d : Nat} {z : Rat} (h : Zwb s n d = some z) : Zci s n d = some z := by
  unfold Zwb at h; split at h
  · rename_i hh; obtain ⟨h1, h2, h3⟩ := hh
    cases h
    unfold Zci; rw [Zvi]; by_cases h0 : n = 0
    · subst h0; rw [decide_eq_true rfl, ZF, ZPh, Ze, Zjr, Ze]; have e : sgn s 0 = 0 := by cases s <;> rfl
      rw [e, Rat.zero_mkRat]
    · have e1 : rgcF n d = some (Nat.gcd n d) := by unfold rgcF; rw [if_pos ⟨h1, h2⟩]
      have hg : Nat.gcd n d ≠ 0 := by have := Nat.gcd_pos_of_pos_left d (Nat.pos_of_ne_zero h0); omega
      have okg : Zcb (Nat.gcd n d) := Z6j (Nat.gcd_le_left _ (Nat.pos_of_ne_zero h0)) h1; have e2 : ZWc n (Nat.gcd n d) = some (n / Nat.gcd n d, n % Nat.gcd n d) := by unfold ZWc; rw [if_pos ⟨h1, okg, hg⟩]
      have e3 : ZWc d (Nat.gcd n d) = some (d / Nat.gcd n d, d % Nat.gcd n d) := by unfold ZWc; rw [if_pos ⟨h2, okg, hg⟩]
      rw [decide_eq_false h0, ZD, e1, Ze, e2, Ze, e3, Ze, Z5q h0 h3, Ze]
  · cases h
noncomputable def Zoh (n : Int) : Option (Rat) :=
 ifb (decide (n < (0 : Int)))
 (bnd (ZAd (IntKind.u64.wrap (-(IntKind.u64.wrap n)))) fun a =>
 bnd (Ztc ([(1 : Int)])) fun b =>
 bnd (Zwb true a b) fun c =>
 some c)
 (bnd (ZAd (IntKind.u64.wrap n)) fun d =>
 bnd (Ztc ([(1 : Int)])) fun e =>
 bnd (Zwb false d e) fun f =>
 some f)
noncomputable def Zei (n : Int) (d : Int) : Option (Rat × Int) :=
 ifb (d == ((0 : Int)))
 (bnd (Zyb ((0 : Int))) fun c =>
 some ((c, (3 : Int))))
 (bnd (Zyb n) fun a =>
 bnd (Zyb d) fun b =>
 bnd (Zwb ((decide (a.num < 0)) != (decide (b.num < 0))) a.num.natAbs b.num.natAbs) fun e =>
 some ((e, (0 : Int))))
noncomputable def Zjj (r : (Int × Int)) : Option (Rat) :=
 ifb (r.2 == ((0 : Int)))
 (bnd (Zyb r.1) fun a =>
 some a)
 (bnd (Z6g r.1 r.2) fun b =>
 some b.1)
noncomputable def ZGj (x : Rat) : Option (Int) :=
 bnd (Z3d x) fun a =>
 ifb (a)
 (some ((0 : Int)))
 (ifb (decide (x.num < 0))
 (some ((-1 : Int)))
 (some ((1 : Int))))
theorem Zsf {n : Nat} (h : n ≤ 18446744073709551616) : Zcb n := ZNl (Nat.le_trans (Zsc (show n < 2 ^ 65 by omega)) (by decide))
theorem ZPi (n : Int) : mkRat n 1 = (n : Rat) := by
  have := Rat.mkRat_self (n : Rat)
  simpa using this
theorem Zlo {n : Int} (h1 : -9223372036854775808 ≤ n) (h2 : n ≤ 9223372036854775807) : Zoh n = some (n : Rat) := by
  unfold Zoh; rw [ZPh]; unfold ZAd Zwb; by_cases h : n < 0
  · obtain ⟨k, rfl⟩ : ∃ k : Nat, n = -(k : Int) := ⟨n.natAbs, by omega⟩; have e1 : IntKind.u64.wrap (-(IntKind.u64.wrap (-(k : Int)))) = (k : Int) := by rw [wrap_u64, wrap_u64]; omega
    rw [decide_eq_true h, ZF, e1, Ze, Ze, Int.toNat_natCast, if_pos ⟨Zsf (by omega), Zsf (by omega), by omega⟩, Ze, ZPi]; rfl
  · obtain ⟨k, rfl⟩ := Int.eq_ofNat_of_zero_le (show 0 ≤ n by omega); rw [decide_eq_false h, ZD, ZJb (by omega), Ze, Ze, Int.toNat_natCast, if_pos ⟨Zsf (by omega), Zsf (by omega), by omega⟩, Ze, ZPi]; rfl
theorem Zpr {n : Int} {z : Rat} (hn : inR .i64 n) (h : Zyb n = some z) : Zoh n = some z := by
  have := Z5b.1 hn; unfold Zyb at h; rw [Zlo (by omega) (by omega), h]
theorem ZNo (n m : Int) : sgn (decide (n < 0) != decide (m < 0)) n.natAbs = if m < 0 then -n else n := by
  have := ZCk n m; unfold Zrb at this; exact Option.some.inj this
theorem Zrq {n d : Int} {z : Rat × Int} (hn : inR .i64 n) (hd : inR .i64 d) (h : Z6g n d = some z) : Zei n d = some z := by
  have hn := Z5b.1 hn; have hd := Z5b.1 hd; unfold Z6g at h
  cases h
  unfold Zei Zyb; by_cases h0 : d = 0
  · subst h0; rfl
  · have e0 : (d == 0) = false := by simp [h0]
    rw [e0, ZD, if_neg h0, Ze, Ze]; unfold Zwb; rw [Rat.num_intCast, Rat.num_intCast, if_pos ⟨Zsf (by omega), Zsf (by omega), by omega⟩, Ze, ZNo, ← ZAi]
theorem rofF_eq {r : Int × Int} {z : Rat} (h : Z9b r = some z) : Zjj r = some z := by
  unfold Z9b at h
  cases h
  unfold Zjj ZSa Zyb Z6g; by_cases h0 : r.2 = 0
  · rw [if_pos h0, h0]; rfl
  · have : (r.2 == 0) = false := by simp [h0]
    rw [this, ZD, Ze, if_neg h0, if_neg h0]
theorem ZYn {x : Rat} {z : Int} (h : Zbd x = some z) : ZGj x = some z := by
  unfold Zbd at h
  cases h
  unfold ZGj Z3d; rw [Ze]; by_cases h0 : x = 0
  · subst h0; rfl
  · have := Z8h h0; rw [decide_eq_false h0, ZD]; by_cases h1 : x.num < 0
    · rw [decide_eq_true h1, ZF, Int.sign_eq_neg_one_of_neg h1]
    · rw [decide_eq_false h1, ZD, Int.sign_eq_one_of_pos (by omega)]
end Go.Eng
namespace Go.Eng
open Go.RowKit
def ZWl (P : Program) (f : FuncId) (T e : TypeId) : Prop := ∀ (B b : Nat) (bs : List Value) (s : ByteArray) (w : World), Lib.IsBuilder T e B b bs w → bs.length + s.size ≤ 140737488355328 → B ≤ w.heap.size →
  Calls P f #[.pointer (some ⟨b, 0, none⟩), .string s] w fun x w' => x = .returned (.tuple #[.int .i64 s.size, .nilIface]) ∧ (Lib.BuilderAt T e B b (.pointer (some ⟨b, 0, none⟩)) (bs ++ Lib.strCells s) w' ∧ Below B w w')
def Tells (P : Program) (f : FuncId) (T e : TypeId) : Prop := ∀ (B b : Nat) (l : List UInt8) (w : World), Lib.IsBuilder T e B b (Lib.byteCells l) w → B ≤ w.heap.size →
  Calls P f #[.pointer (some ⟨b, 0, none⟩)] w fun x w' => x = .returned (.string ⟨l.toArray⟩) ∧ Below B w w'
structure Bld (T e b : Nat) (w0 : Base) (v : Zd) (m : List UInt8) (w : World) : Prop where
  is : Lib.IsBuilder T e b b (Lib.byteCells m) w
  old : ∀ k o, v k = some o → k < b
  base : w0.wd.heap.size ≤ b
  lt : b ≤ w.heap.size
variable {P : Program} {K : Nat} {w0 : Base} {v0 : Zd} {σ : List (Nat × Value)} {ℓ : List Loc} {v : Zd} {a : Act} {w : World}
variable {ops : Array Oper} {Q : Exit → Act → World → Prop} {rest : List Oper}
theorem St.below {w' : World} {b : Nat} (h : St K w0 v0 σ [] v a w) (x : Below b w w') (hv : ∀ k o, v k = some o → k < b) (hb : w0.wd.heap.size ≤ b) : St K w0 v0 σ [] v a w' :=
  ⟨h.size, h.dfr, h.fr, ⟨x.os.trans h.ext.os, x.tape.trans h.ext.tape, x.output.trans h.ext.output, Nat.le_trans h.ext.size x.size, fun k hk hn => (x.block k (by omega)).trans (h.ext.block k hk hn)⟩,
    ⟨h.vst.le, fun k o e => (x.block k (hv k o e)).trans (h.vst.vin k o e), h.vst.old⟩, fun e he => by simp at he, List.nodup_nil⟩
theorem op_newB {o : Oper} {d T : Nat} (e : Nat) (hS : St K w0 v0 σ ℓ v a w) (hw : Region.wanted o (yielded ops a.tmps) = true) (hd : o.dst = some d) (hK : d < K)
    (hrun : (execOp a.eval o).run P w = .ok (.value (.pointer (some ⟨w.heap.size, 0, none⟩))) (w.alloc (.cells #[.pointer none, .slice none 0 0] T)))
    (h : ∀ b a w, St K w0 v0 ((d, .pointer (some ⟨b, 0, none⟩)) :: σ) [] v a w → Bld T e b w0 v [] w → wpList P ops Q rest a w) : wpList P ops Q (o :: rest) a w :=
  Z6d hw (Zcf hrun (by
    rw [hd]
    have h1 : St K w0 v0 σ [] v a w := hS.drop (List.nil_sublist _)
    have h2 : Ext w (w.alloc (.cells #[.pointer none, .slice none 0 0] T)) := Ext.alloc w _
    exact h w.heap.size _ _ ((h1.step h2 (VStep.ext h1.vin h2)).put _ hK) ⟨Lib.fresh_isBuilder T e w, fun k o hk => h1.vin.lt hk, h1.ext.size, h2.size⟩))
theorem Ztq (l l' : List UInt8) : Lib.byteCells l ++ Lib.strCells (Z6 l') = Lib.byteCells (l ++ l') := by simp [Lib.byteCells, Lib.strCells, Z6]
theorem Zop {o : Oper} {d f T e b : Nat} {m s : List UInt8} (hW : ZWl P f T e) (hB : Bld T e b w0 v m w) (hl : (m ++ s).length ≤ 140737488355328) (hS : St K w0 v0 σ [] v a w) (hw : Region.wanted o (yielded ops a.tmps) = true) (hd : o.dst = some d) (hK : d < K)
    (hrun : (execOp a.eval o).run P w = .ok (.enter f #[.pointer (some ⟨b, 0, none⟩), .string (Z6 s)]) w)
    (h : ∀ a w, St K w0 v0 ((d, .tuple #[.int .i64 s.length, .nilIface]) :: σ) [] v a w → Bld T e b w0 v (m ++ s) w → wpList P ops Q rest a w) : wpList P ops Q (o :: rest) a w := by
  have hc := hW b b (Lib.byteCells m) (Z6 s) w hB.is (by rw [Lib.byteCells_length, ZCd, ← List.length_append]; exact hl) hB.lt; refine Z6d hw (Znh hrun (Calls.mono hc fun x w' ⟨e1, e2, e3⟩ => ⟨_, e1, ?_⟩)); rw [hd]; rw [ZCd] at *; rw [Ztq] at e2; exact h _ _ ((hS.below e3 hB.old hB.base).put _ hK) ⟨.inr e2, hB.old, hB.base, Nat.le_trans hB.lt e3.size⟩
theorem op_tell {o : Oper} {d f T e b : Nat} {m : List UInt8} (hT : Tells P f T e) (hB : Bld T e b w0 v m w) (hS : St K w0 v0 σ [] v a w) (hw : Region.wanted o (yielded ops a.tmps) = true) (hd : o.dst = some d) (hK : d < K)
    (hrun : (execOp a.eval o).run P w = .ok (.enter f #[.pointer (some ⟨b, 0, none⟩)]) w)
    (h : ∀ a w, St K w0 v0 ((d, .string (Z6 m)) :: σ) [] v a w → wpList P ops Q rest a w) : wpList P ops Q (o :: rest) a w := by
  have hc := hT b b m w hB.is hB.lt; refine Z6d hw (Znh hrun (Calls.mono hc fun x w' ⟨e1, e3⟩ => ⟨_, e1, ?_⟩)); rw [hd]; exact h _ _ ((hS.below e3 hB.old hB.base).put _ hK)
def Zfh (l : List UInt8) : Option Unit := if l.length ≤ 140737488355328 then some () else none
theorem Zwo {l : List UInt8} {u : Unit} (h : Zfh l = some u) : l.length ≤ 140737488355328 := by
  unfold Zfh at h; split at h
  · assumption
  · cases h
theorem Z7q {q : Option Nat} {b o : Nat} (h : mkA q = some ⟨b, o, none⟩) : q = some b ∧ o = 0 := by
  cases q with
  | none => cases h
  | some c => cases h; exact ⟨rfl, rfl⟩
noncomputable def Zph (a : Nat) : Option ((List UInt8)) :=
 bnd (bnd (Z1 (fun s : Nat × (List UInt8) => match s with
 | (e, f) =>
 (ifb (decide ((0 : Int) < (((Zj 4294967296 e)).length : Int)))
 (bnd (Zye e ((1000000000 : Int))) fun c =>
 bnd (bnd (Z1 (fun s : (List UInt8) × Int × Int => match s with
 | (d, b, g) =>
 (bnd (ifb (decide (g < (9 : Int)))
 (ifb (decide ((0 : Int) < (((Zj 4294967296 c.1)).length : Int)))
 (some true)
 (some (decide ((0 : Int) < b))))
 (some false))
 (fun (j : Bool) =>
 (ifb (j)
 (bnd (rem .u32 b ((10 : Int))) fun k =>
 bnd (rem .u32 b ((10 : Int))) fun l =>
 bnd (ZKb (([48, 49, 50, 51, 52, 53, 54, 55, 56, 57] : List UInt8)) k (IntKind.u32.wrap (l + ((1 : Int))))) fun h =>
 bnd (Zoc (h ++ d)) fun r =>
 bnd (quo .u32 b ((10 : Int))) fun m =>
 bnd (chk .i64 (g + ((1 : Int)))) fun n =>
 some (.inl (((h ++ d), m, n))))
 (some (.inr d)))))) Zga ((f, c.2, (0 : Int))))
 (fun (o : (List UInt8)) =>
 (some o)))
 (fun (p : (List UInt8)) =>
 (some (.inl ((c.1, p))))))
 (some (.inr f)))) Zga ((a, ([] : List UInt8))))
 (fun (q : (List UInt8)) =>
 (some q)))
 (fun (i : (List UInt8)) =>
 (ifb (i == (([] : List UInt8)))
 (some (([48] : List UInt8)))
 (some i)))
noncomputable def Z8g (a : Nat) : Option ((List UInt8)) :=
 bnd (bnd (Z1 (fun s : Nat × (List (List UInt8)) => match s with
 | (h, c) =>
 (ifb (decide ((0 : Int) < (((Zj 18446744073709551616 h)).length : Int)))
 (bnd (Zje h ((10000000000000000000 : Int))) fun d =>
 bnd (Zuf d.2) fun b =>
 bnd (ifb (decide ((0 : Int) < (((Zj 18446744073709551616 d.1)).length : Int)))
 (bnd (chk .i64 (((19 : Int)) - ((b.length : Int)))) fun m =>
 bnd (ZXf (([48] : List UInt8)) m) fun i =>
 bnd (Zoc (i ++ b)) fun r =>
 some ((i ++ b)))
 (some b))
 (fun (j : (List UInt8)) =>
 (bnd (Z5a 16 (c ++ [j])) fun t =>
 some (.inl ((d.1, (c ++ [j])))))))
 (some (.inr c)))) Zga ((a, ([] : (List (List UInt8))))))
 (fun (n : (List (List UInt8))) =>
 (some n)))
 (fun (e : (List (List UInt8))) =>
 (ifb (((e.length : Int)) == ((0 : Int)))
 (some (([48] : List UInt8)))
 (bnd (chk .i64 (((e.length : Int)) - ((1 : Int)))) fun o =>
 bnd (bnd (Z1 (fun s : (List UInt8) × Int => match s with
 | (f, g) =>
 (ifb (decide ((0 : Int) ≤ g))
 (bnd (idx e g) fun k =>
 bnd (Zfh (f ++ k)) fun u =>
 bnd (chk .i64 (g - ((1 : Int)))) fun p =>
 some (.inl (((f ++ k), p))))
 (some (.inr f)))) Zga ((([] : List UInt8), o)))
 (fun (q : (List UInt8)) =>
 (some q)))
 (fun (l : (List UInt8)) =>
 (bnd (Zoc l) fun v =>
 some l)))))
noncomputable def Zbi (x : Rat) : Option ((List UInt8)) :=
 bnd (ZOf ((x.num).natAbs)) fun a =>
 bnd (ifb (decide (x.num < 0))
 (bnd (Zoc ((([45] : List UInt8)) ++ a)) fun e =>
 some (((([45] : List UInt8)) ++ a)))
 (some a))
 (fun (b : (List UInt8)) =>
 (bnd (ifb (decide ((0 : Int) < (((Zj 18446744073709551616 ((Z3a x.den)))).length : Int)))
 (bnd (ZOf ((Z3a x.den))) fun c =>
 bnd (Zoc ((([47] : List UInt8)) ++ c)) fun f =>
 bnd (Zoc (b ++ (((([47] : List UInt8)) ++ c)))) fun g =>
 some ((b ++ (((([47] : List UInt8)) ++ c)))))
 (some b))
 (fun (d : (List UInt8)) =>
 (some d))))
theorem Zui (n : Nat) : (ZFa n).length ≤ bl n := by
  induction n using Nat.strongRecOn with
  | ind n ih =>
    by_cases h : n = 0
    · subst h; rw [Zed]; simp
    · rw [ZQe h, List.length_append]; have h1 := ih (n / 10) (by omega); have h2 : bl (n / 10) + 1 ≤ bl n := by
        rw [ZBj h]; exact Nat.add_le_add_right (ZCc (by omega)) 1
      simp only [List.length_cons, List.length_nil]; omega
theorem Zfq {n k : Nat} (h : n < 10 ^ k) : (ZFa n).length ≤ k := by
  induction k generalizing n with
  | zero => simp at h; subst h; rw [Zed]; simp
  | succ k ih =>
    by_cases h0 : n = 0
    · subst h0; rw [Zed]; simp
    · rw [ZQe h0, List.length_append]; have := ih (n := n / 10) (by rw [Nat.pow_succ] at h; omega); simp only [List.length_cons, List.length_nil]; omega
theorem Zdo {q : Nat} (hq : q ≠ 0) : ∀ (k r : Nat), r < 10 ^ k → ZFa (q * 10 ^ k + r) = ZFa q ++ (List.replicate (k - (ZFa r).length) 48 ++ ZFa r) := by
  intro k
  induction k with
  | zero => intro r h; simp at h; subst h; rw [Zed]; simp
  | succ k ih =>
    intro r h; rw [Nat.pow_succ] at h; have hn : q * 10 ^ (k + 1) + r ≠ 0 := by
      have : 0 < q * 10 ^ (k + 1) := Nat.mul_pos (by omega) (Nat.pow_pos (by omega)); omega
    have e1 : (q * 10 ^ (k + 1) + r) / 10 = q * 10 ^ k + r / 10 := by rw [Nat.pow_succ, ← Nat.mul_assoc]; generalize q * 10 ^ k = p; omega
    have e2 : (q * 10 ^ (k + 1) + r) % 10 = r % 10 := by rw [Nat.pow_succ, ← Nat.mul_assoc]; generalize q * 10 ^ k = p; omega
    rw [ZQe hn, e1, e2, ih (r / 10) (by omega)]; by_cases h0 : r = 0
    · subst h0; simp only [Nat.zero_div, Zed, List.length_nil, Nat.sub_zero, List.append_nil, List.append_assoc]; congr 1; rw [List.replicate_succ']; rfl
    · rw [ZQe h0, List.length_append]; simp only [List.length_cons, List.length_nil, List.append_assoc]; rw [show k + 1 - ((ZFa (r / 10)).length + (0 + 1)) = k - (ZFa (r / 10)).length by omega]
theorem Z4d {l : List UInt8} (h : l.length ≤ 140737488355328) : Zoc l = some () := by unfold Zoc; rw [if_pos (by unfold maxLen; omega)]
theorem Zoo {d : Nat} (h : d < 10) : ZKb ([48, 49, 50, 51, 52, 53, 54, 55, 56, 57] : List UInt8) (d : Int) ((d + 1 : Nat) : Int) = some [UInt8.ofNat (48 + d)] := by
  have : d = 0 ∨ d = 1 ∨ d = 2 ∨ d = 3 ∨ d = 4 ∨ d = 5 ∨ d = 6 ∨ d = 7 ∨ d = 8 ∨ d = 9 := by omega
  rcases this with rfl | rfl | rfl | rfl | rfl | rfl | rfl | rfl | rfl | rfl <;> rfl
theorem quo_u32 {p q : Nat} (hq : 0 < q) (hp : p < 4294967296) : quo .u32 (p : Int) (q : Int) = some ((p / q : Nat) : Int) := by
  unfold quo; rw [if_neg (by omega)]; have e : (p : Int).tdiv (q : Int) = ((p / q : Nat) : Int) := by simp [Int.tdiv_eq_ediv_of_nonneg]
  have h : p / q ≤ p := Nat.div_le_self _ _; generalize p / q = r at *; have h5 : inR .u32 (r : Int) := (show (0 : Int) ≤ (r : Int) ∧ (r : Int) ≤ 4294967295 from ⟨by omega, by omega⟩); rw [e, Z9j h5]
theorem beq_nil {l : List UInt8} : (l == ([] : List UInt8)) = decide (l = []) := by
  cases l <;> rfl
theorem Zsm {n : Nat} : ZFa n = [] ↔ n = 0 := by
  constructor
  · intro h; rcases Nat.eq_zero_or_pos n with h0 | h0
    · exact h0
    · rw [ZQe (by omega)] at h; simp at h
  · rintro rfl; exact Zed
theorem Ztp {a : Nat} (ha : Zcb a) : Zph a = some (Zvb a) := by
  unfold Zph; rw [ZQa]; have hbl := ZFk ha; refine Zeb (fun s : Nat × List UInt8 => Zcb s.1 ∧ ZFa s.1 ++ s.2 = ZFa a) (fun s => bl s.1) (fun r : List UInt8 => r = ZFa a) ⟨ha, by simp⟩ (ZMa (by simp only; omega)) ?_ ?_
  · rintro ⟨x, s⟩ ⟨hx, he⟩; simp only at hx he ⊢; rw [Zyk]; by_cases h0 : x = 0
    · right; subst h0; rw [show decide ((0 : Nat) ≠ 0) = false from rfl, ZD]; exact ⟨_, rfl, by rw [← he, Zed]; rfl⟩
    · left; have e1 : Zye x (1000000000 : Int) = some (x / 1000000000, ((x % 1000000000 : Nat) : Int)) := by
        unfold Zye; rw [if_pos ⟨by unfold ZLa; unfold Zcb at hx; omega, by omega⟩]; rfl
      rw [decide_eq_true h0, ZF, e1, Ze, ZQa]; have hslen : s.length ≤ 4398046511104 := by
        have := Zui a; rw [← he, List.length_append] at this; omega
      refine Zrk (s := (s, ((x % 1000000000 : Nat) : Int), (0 : Int))) (fun t : List UInt8 × Int × Int => ∃ r k m : Nat, t.2.1 = (r : Int) ∧ t.2.2 = (k : Int) ∧ k + m = 9 ∧ r < 10 ^ m ∧ r < 1000000000 ∧ ZFa (x / 1000000000 * 10 ^ m + r) ++ t.1 = ZFa a) (fun t => 9 - t.2.2.toNat)
        (fun t : List UInt8 => ZFa (x / 1000000000) ++ t = ZFa a) ⟨x % 1000000000, 0, 9, rfl, rfl, rfl, Nat.mod_lt _ (by decide), Nat.mod_lt _ (by decide), by
          rw [show x / 1000000000 * 10 ^ 9 + x % 1000000000 = x by omega]; exact he⟩ (ZMa (by simp)) ?_ ?_
      · rintro ⟨t, r, k⟩ ⟨r, k, m, rfl, rfl, hk, hr, hr2, hd⟩; simp only at hd ⊢; rw [Zyk]; have htl : t.length ≤ 4398046511104 := by
          have := Zui a; rw [← hd, List.length_append] at this; omega
        have cond : ifb (decide ((k : Int) < 9)) (ifb (decide (x / 1000000000 ≠ 0)) (some true) (some (decide ((0 : Int) < (r : Int))))) (some false) = some (decide (k < 9 ∧ x / 1000000000 * 10 ^ m + r ≠ 0)) := by
          by_cases h1 : k < 9
          · rw [decide_eq_true (by omega), ZF]; by_cases h2 : x / 1000000000 = 0
            · rw [decide_eq_false (by simp [h2]), ZD, h2]; exact congrArg some (decide_eq_decide.2 (by omega))
            · rw [decide_eq_true h2, ZF]; have : 0 < x / 1000000000 * 10 ^ m := Nat.mul_pos (by omega) (Nat.pow_pos (by omega)); rw [decide_eq_true ⟨h1, by omega⟩]
          · rw [decide_eq_false (by omega), ZD, decide_eq_false (by omega)]
        rw [cond, Ze]; by_cases hc : k < 9 ∧ x / 1000000000 * 10 ^ m + r ≠ 0
        · left; obtain ⟨h1, h2⟩ := hc; obtain ⟨m, rfl⟩ : ∃ j, m = j + 1 := ⟨m - 1, by omega⟩; have c1 : rem .u32 (r : Int) 10 = some ((r % 10 : Nat) : Int) := ZHe (q := 10) (by omega); have c2 : quo .u32 (r : Int) 10 = some ((r / 10 : Nat) : Int) := quo_u32 (q := 10) (by omega) (by omega); have c3 : IntKind.u32.wrap (((r % 10 : Nat) : Int) + 1) = ((r % 10 + 1 : Nat) : Int) := by rw [wrap_u32]; omega
          have c4 : chk .i64 ((k : Int) + 1) = some ((k + 1 : Nat) : Int) := by rw [show (k : Int) + 1 = ((k + 1 : Nat) : Int) by omega, Zgb (by omega)]
          rw [decide_eq_true ⟨h1, h2⟩, ZF, c1, Ze, Ze, c3, Zoo (Nat.mod_lt _ (by omega)), Ze, Z4d (by simp; omega), Ze, c2, Ze, c4, Ze]; rw [Nat.pow_succ] at hr; refine ⟨_, rfl, ⟨r / 10, k + 1, m, rfl, rfl, by omega, by omega, by omega, ?_⟩, by simp; omega⟩; simp only; rw [← hd, ZQe h2, List.append_assoc]; have e2 : (x / 1000000000 * 10 ^ (m + 1) + r) / 10 = x / 1000000000 * 10 ^ m + r / 10 := by rw [Nat.pow_succ, ← Nat.mul_assoc]; generalize x / 1000000000 * 10 ^ m = p; omega
          have e3 : (x / 1000000000 * 10 ^ (m + 1) + r) % 10 = r % 10 := by rw [Nat.pow_succ, ← Nat.mul_assoc]; generalize x / 1000000000 * 10 ^ m = p; omega
          rw [e2, e3]
        · right; rw [decide_eq_false hc, ZD]; refine ⟨_, rfl, ?_⟩; rw [← hd]; congr 2; by_cases hm : m = 0
          · subst hm; simp at hr; simp [hr]
          · have h2 : x / 1000000000 * 10 ^ m + r = 0 := by
              rcases Nat.eq_zero_or_pos (x / 1000000000 * 10 ^ m + r) with h | h
              · exact h
              · exact absurd ⟨by omega, by omega⟩ hc
            have h3 : x / 1000000000 * 10 ^ m = 0 := by omega
            rcases Nat.mul_eq_zero.1 h3 with h | h
            · rw [h2, h]
            · exact absurd h (Nat.pos_iff_ne_zero.1 (Nat.pow_pos (by omega)))
      · rintro t ht; rw [Ze]; refine ⟨_, rfl, ⟨Z6j (Nat.div_le_self _ _) hx, ht⟩, ?_⟩; simp only; have := ZBj h0; have h3 : bl (x / 1000000000) ≤ bl (x / 2) := ZCc (by omega); omega
  · rintro r rfl; rw [Ze, beq_nil]; unfold Zvb; by_cases h0 : a = 0
    · subst h0; rw [decide_eq_true Zed, ZF, if_pos rfl]
    · rw [decide_eq_false (fun h => h0 (Zsm.1 h)), ZD, if_neg h0]
theorem ZVq {n : Nat} {z : List UInt8} (h : Zbg n = some z) : Zph n = some z := by
  unfold Zbg at h; split at h
  · rename_i hh; rw [Ztp hh, h]
  · cases h
theorem Zco (r : List (List UInt8)) (j : Nat) : ((r.drop j).reverse.flatten).length ≤ r.reverse.flatten.length := by
  have h : r.reverse.flatten = (r.drop j).reverse.flatten ++ (r.take j).reverse.flatten := by
    rw [← List.flatten_append, ← List.reverse_append, List.take_append_drop]
  rw [h, List.length_append]; omega
theorem Zrn (c : UInt8) : ∀ k : Nat, (List.replicate k [c]).flatten = List.replicate k c
  | 0 => rfl
  | k + 1 => by rw [List.replicate_succ, List.flatten_cons, Zrn c k, List.replicate_succ]; rfl
theorem text_eq {a : Nat} (ha : okN a) : Z8g a = some (Zvb a) := by
  unfold Z8g; have hbl := ZIk ha; have hda := Zui a; rw [ZQa]; refine Zeb (fun s : Nat × List (List UInt8) => okN s.1 ∧ ZFa s.1 ++ s.2.reverse.flatten = ZFa a ∧ bl s.1 + s.2.length ≤ bl a) (fun s => bl s.1) (fun r : List (List UInt8) => r.reverse.flatten = ZFa a ∧ r.length ≤ bl a ∧ (a ≠ 0 → r ≠ [])) ⟨ha, by simp, by simp⟩ (ZMa (by simp only; omega)) ?_ ?_
  · rintro ⟨x, s⟩ ⟨hx, he, hl⟩; simp only at hx he hl ⊢; by_cases h0 : x = 0
    · right; subst h0; rw [ZVa, show decide ((0 : Int) < (([] : List Int).length : Int)) = false from rfl, ZD]; rw [Zed, List.nil_append] at he; refine ⟨_, rfl, he, by omega, fun h1 h2 => ?_⟩; subst h2; exact h1 (Zsm.1 he.symm)
    · left; have hpos := List.length_pos_iff.2 ((ZFc (n := x) (B := 18446744073709551616) (by decide)).2 h0); have e1 : Zje x (10000000000000000000 : Int) = some (x / 10000000000000000000, ((x % 10000000000000000000 : Nat) : Int)) := by
        unfold Zje; rw [if_pos ⟨hx, by omega⟩]; rfl
      have e2 : Zuf ((x % 10000000000000000000 : Nat) : Int) = some (ZFa (x % 10000000000000000000)) := by unfold Zuf; rw [Int.toNat_natCast]
      rw [decide_eq_true (show (0 : Int) < ((Zj 18446744073709551616 x).length : Int) by omega), ZF, e1, Ze]; simp only; rw [e2, Ze]; have hr : (ZFa (x % 10000000000000000000)).length ≤ 19 := Zfq (k := 19) (Nat.mod_lt _ (by decide)); have hb2 : bl (x / 10000000000000000000) + 1 ≤ bl x := by
        rw [ZBj h0]; exact Nat.add_le_add_right (ZCc (by omega)) 1
      have hsplit : ∃ p : List UInt8, ifb (decide ((0 : Int) < ((Zj 18446744073709551616 (x / 10000000000000000000)).length : Int))) (bnd (chk .i64 (19 - ((ZFa (x % 10000000000000000000)).length : Int))) fun y218 => bnd (ZXf [48] y218) fun y220 => bnd (Zoc (y220 ++ ZFa (x % 10000000000000000000))) fun y227 => some (y220 ++ ZFa (x % 10000000000000000000))) (some (ZFa (x % 10000000000000000000))) = some p ∧ ZFa (x / 10000000000000000000) ++ p = ZFa x := by
        by_cases hq : x / 10000000000000000000 = 0
        · refine ⟨_, by rw [hq, ZVa]; rfl, ?_⟩; rw [hq, Zed, List.nil_append]; congr 1; omega
        · have hpos := List.length_pos_iff.2 ((ZFc (n := x / 10000000000000000000) (B := 18446744073709551616) (by decide)).2 hq); obtain ⟨k, hk⟩ : ∃ k, k = 19 - (ZFa (x % 10000000000000000000)).length := ⟨_, rfl⟩; have e3 : chk .i64 (19 - ((ZFa (x % 10000000000000000000)).length : Int)) = some (k : Int) := by rw [show (19 - ((ZFa (x % 10000000000000000000)).length : Int)) = (k : Int) by omega, Zgb (by omega)]
          have e4 : ZXf [48] (k : Int) = some (List.replicate k 48) := by
            unfold ZXf; rw [if_pos ⟨by omega, by simp; omega⟩, Int.toNat_natCast, Zrn]
          refine ⟨List.replicate k 48 ++ ZFa (x % 10000000000000000000), ?_, ?_⟩
          · rw [decide_eq_true (by omega), ZF, e3, Ze, e4, Ze, Z4d (by simp; omega), Ze]
          · have := Zdo hq 19 (x % 10000000000000000000) (Nat.mod_lt _ (by decide)); rw [show x / 10000000000000000000 * 10 ^ 19 + x % 10000000000000000000 = x by omega] at this; rw [this, hk]
      obtain ⟨p, ep, hp⟩ := hsplit; rw [ep, Ze, Z9d (by simp; omega), Ze]; refine ⟨_, rfl, ⟨Z5i (Nat.div_le_self _ _) hx, ?_, by simp; omega⟩, by simp only; omega⟩; simp only [List.reverse_append, List.reverse_cons, List.reverse_nil, List.nil_append, List.singleton_append, List.flatten_cons]; rw [← List.append_assoc, hp, he]
  · rintro r ⟨hr, hl, hne⟩; rw [Ze]; by_cases h0 : a = 0
    · subst h0; have : r = [] := by
        have := hl; simp [bl] at this; exact this
      subst this; rfl
    · have hne := hne h0; have hpos : 0 < r.length := List.length_pos_iff.2 hne; have e1 : ((r.length : Int) == 0) = false := beq_false_of_ne (by omega); rw [e1, ZD, Zma (by omega) (by omega), Ze, ZQa]; unfold Zvb; rw [if_neg h0]; refine Zeb (fun s : List UInt8 × Int => ∃ k : Nat, s.2 = (k : Int) - 1 ∧ k ≤ r.length ∧ s.1 = (r.drop k).reverse.flatten) (fun s => (s.2 + 1).toNat) (fun t : List UInt8 => t = ZFa a) ⟨r.length, rfl, by omega, by simp⟩ (ZMa (by simp only; omega)) ?_ ?_
      · rintro ⟨s, i⟩ ⟨k, hi, hk, hs⟩; simp only at hi hs ⊢; subst hi hs; by_cases hk0 : k = 0
        · right; subst hk0; rw [show decide ((0 : Int) ≤ ((0 : Nat) : Int) - 1) = false from rfl, ZD]; exact ⟨_, rfl, by rw [List.drop_zero]; exact hr⟩
        · left; obtain ⟨j, rfl⟩ : ∃ j, k = j + 1 := ⟨k - 1, by omega⟩; have ej : ((j + 1 : Nat) : Int) - 1 = (j : Int) := by omega
          have hj : j < r.length := by omega
          have hnew : (r.drop (j + 1)).reverse.flatten ++ r[j] = (r.drop j).reverse.flatten := by
            rw [List.drop_eq_getElem_cons hj, List.reverse_cons, List.flatten_append]; simp
          have hlen : ((r.drop j).reverse.flatten).length ≤ r.reverse.flatten.length := Zco r j; rw [hr] at hlen; have e2 : Zfh ((r.drop (j + 1)).reverse.flatten ++ r[j]) = some () := by unfold Zfh; rw [if_pos (by rw [hnew]; omega)]
          rw [ej, decide_eq_true (show (0 : Int) ≤ (j : Int) by omega), ZF, Zaa hj, Ze, e2, Ze, Zma (by omega) (by omega), Ze]; exact ⟨_, rfl, ⟨j, rfl, by omega, hnew⟩, by simp⟩
      · rintro t rfl; rw [Ze, Z4d (by omega), Ze]
theorem ZIo {n : Nat} {z : List UInt8} (h : ZOf n = some z) : Z8g n = some z := by
  unfold ZOf at h; split at h
  · rename_i hh; rw [text_eq hh, h]
  · cases h
theorem Zzi {n : Nat} (h : bl n ≤ 4398046511104) : (Zvb n).length ≤ 4398046511104 := by
  unfold Zvb; split
  · simp
  · have := Zui n; omega
theorem ZFo {x : Rat} {z : List UInt8} (h : Zae x = some z) : Zbi x = some z := by
  unfold Zae at h; split at h
  · rename_i hh; obtain ⟨h1, h2⟩ := hh
    cases h
    unfold Zbi ZOf; have l1 := Zzi (n := x.num.natAbs) (by omega); have l2 := Zzi (n := x.den) (by omega); rw [if_pos (Z2a (by omega)), Ze]; have e1 : ifb (decide (x.num < 0)) (bnd (Zoc ([45] ++ Zvb x.num.natAbs)) fun y80 => some (([45] : List UInt8) ++ Zvb x.num.natAbs)) (some (Zvb x.num.natAbs)) = some ((if x.num < 0 then [45] else []) ++ Zvb x.num.natAbs) := by
      by_cases h : x.num < 0
      · rw [decide_eq_true h, ZF, Z4d (by simp; omega), Ze, if_pos h]
      · rw [decide_eq_false h, ZD, if_neg h]; rfl
    rw [e1, Ze]; unfold txtQ; have l3 : ((if x.num < 0 then [45] else []) ++ Zvb x.num.natAbs : List UInt8).length ≤ 4398046511105 := by
      rw [List.length_append]; split <;> simp <;> omega
    generalize ((if x.num < 0 then [45] else []) ++ Zvb x.num.natAbs : List UInt8) = s at *; by_cases hd : x.den = 1
    · rw [hd]; rw [show Z3a 1 = 0 from rfl, ZVa]; simp [ifb, bnd]
    · have e2 : Z3a x.den = x.den := by unfold Z3a; rw [if_neg hd]
      have hpos := List.length_pos_iff.2 ((ZFc (n := x.den) (B := 18446744073709551616) (by decide)).2 x.den_nz); rw [e2, decide_eq_true (by omega), ZF, if_pos (Z2a (by omega)), Ze, Z4d (by simp; omega), Ze, Z4d (by simp; omega), Ze, Ze, if_neg hd]; rfl
  · cases h
noncomputable def ZKj (x : Rat) : Option (Bool) :=
 bnd (Zzd x) fun a =>
 some (decide (a ≤ (0 : Int)))
noncomputable def ZLj (l : (List Rat)) (g : Unit) : Option (Int) :=
 bnd (bnd (Z1 (fun s : Int => match s with
 | a =>
 (ifb (decide (a < (l.length : Int)))
 (bnd (idx l a) fun b =>
 bnd (ZKj b) fun c =>
 ifb (c)
 (some (.inr ((.inl a))))
 (bnd (chk .i64 (a + ((1 : Int)))) fun d =>
 some (.inl d)))
 (some (.inr ((.inr (()))))))) Zga ((0 : Int)))
 (fun (p : (Int) ⊕ (Unit)) => match p with
 | .inl e =>
 (some ((.inr e)))
 | .inr (()) =>
 (some ((.inl (()))))))
 (fun (p : (Unit) ⊕ (Int)) => match p with
 | .inl (()) =>
 (some ((-1 : Int)))
 | .inr f =>
 (some f))
noncomputable def ZIh (l : (List Rat)) (g : Unit) : Option (Bool) :=
 bnd (ZLj l (())) fun a =>
 some (decide ((0 : Int) ≤ a))
noncomputable def ZKe (l : (List Rat)) : Option (Bool) :=
 bnd (ZIh l (())) fun a =>
 some (!(a))
noncomputable def Z0f (t : (Rat × (List Rat))) : Option (Int) :=
 bnd (ZKe ([t.1])) fun b =>
 ifb (!(b))
 (some ((1 : Int)))
 (bnd (ifb (((t.2.length : Int)) == ((0 : Int)))
 (some true)
 (some (decide ((16 : Int) ≤ (t.2.length : Int)))))
 (fun (c : Bool) =>
 (ifb (c)
 (some ((4 : Int)))
 (bnd (bnd (Z1 (fun s : Int => match s with
 | a =>
 (ifb (decide (a < (t.2.length : Int)))
 (bnd (idx t.2 a) fun d =>
 bnd (ifb (decide ((0 : Int) < a))
 (bnd (chk .i64 (a - ((1 : Int)))) fun e =>
 bnd (idx t.2 e) fun f =>
 bnd (Z7c d f) fun g =>
 some (decide (g ≤ (0 : Int))))
 (some false))
 (fun (h : Bool) =>
 (ifb (h)
 (some (.inr ((.inl ((7 : Int))))))
 (bnd (chk .i64 (a + ((1 : Int)))) fun i =>
 some (.inl i)))))
 (some (.inr ((.inr (()))))))) Zga ((0 : Int)))
 (fun (p : (Int) ⊕ (Unit)) => match p with
 | .inl j =>
 (some ((.inr j)))
 | .inr (()) =>
 (some ((.inl (()))))))
 (fun (p : (Unit) ⊕ (Int)) => match p with
 | .inl (()) =>
 (some ((0 : Int)))
 | .inr k =>
 (some k))))))
noncomputable def Zmh (y : Rat) (r : Rat) : Option (Bool) :=
 bnd (Z7c y r) fun a =>
 some (decide ((0 : Int) ≤ a))
noncomputable def Z3i (l : (List Rat)) (g : Rat) : Option (Int) :=
 bnd (bnd (Z1 (fun s : Int => match s with
 | a =>
 (ifb (decide (a < (l.length : Int)))
 (bnd (idx l a) fun b =>
 bnd (Zmh b g) fun c =>
 ifb (c)
 (some (.inr ((.inl a))))
 (bnd (chk .i64 (a + ((1 : Int)))) fun d =>
 some (.inl d)))
 (some (.inr ((.inr (()))))))) Zga ((0 : Int)))
 (fun (p : (Int) ⊕ (Unit)) => match p with
 | .inl e =>
 (some ((.inr e)))
 | .inr (()) =>
 (some ((.inl (()))))))
 (fun (p : (Unit) ⊕ (Int)) => match p with
 | .inl (()) =>
 (some ((-1 : Int)))
 | .inr f =>
 (some f))
noncomputable def ZHf (t : (Rat × (List Rat))) (x : Rat) : Option (Int) :=
 bnd (ZKf x t.1) fun b =>
 bnd (Z3i t.2 b.1) fun a =>
 ifb (decide (a < (0 : Int)))
 (some ((t.2.length : Int)))
 (some a)
noncomputable def ZFf (t : (Rat × (List Rat))) (x : Rat) : Option (Int × Int) :=
 bnd (Z0f ((t.1, t.2))) fun a =>
 ifb (a != ((0 : Int)))
 (some (((0 : Int), a)))
 (bnd (ZHf ((t.1, t.2)) x) fun b =>
 some ((b, (0 : Int))))
noncomputable def Zbk (d : ((Int × Int) × (Int × Int) × (Int × Int))) : Option ((Rat × Rat × Rat) × (Rat × Rat × Rat)) :=
 bnd (Zcc ((d.1.1, d.1.2))) fun a =>
 bnd (Zcc ((d.2.1.1, d.2.1.2))) fun b =>
 bnd (Zcc ((d.2.2.1, d.2.2.2))) fun c =>
 bnd (Z9b ((d.1.1, d.1.2))) fun e =>
 bnd (Z9b ((d.2.1.1, d.2.1.2))) fun f =>
 bnd (Z9b ((d.2.2.1, d.2.2.2))) fun g =>
 some (((a, b, c), (e, f, g)))
noncomputable def Zvh (x : Rat) (y : Rat) : Option (Rat) :=
 bnd (ZUe x y) fun a =>
 some a.1
noncomputable def ZDc (n : Int) : Option (Rat) :=
 bnd (ZBd n) fun a =>
 some a
noncomputable def Zfk (d : (Rat × Rat × Rat)) : Option (Bool) :=
 bnd (ZKe ([d.1, d.2.1, d.2.2])) fun a =>
 some a
noncomputable def ZVk (d : (Rat × Rat × Rat)) (x : Rat) (y : Rat) : Option (Rat × Int) :=
 bnd (Zfk ((d.1, d.2.1, d.2.2))) fun a =>
 ifb (!(a))
 (some (((0 : Rat), (1 : Int))))
 (bnd (ZEd x y) fun b =>
 bnd (ZDc ((1 : Int))) fun c =>
 bnd (Zvh d.2.1 d.1) fun e =>
 bnd (Zvc c e) fun f =>
 bnd (Z5c b f) fun g =>
 some ((g, (0 : Int))))
noncomputable def ZXh (i : Int) (k : Int) : Option (Rat) :=
 ifb (i == k)
 (bnd (ZDc ((1 : Int))) fun a =>
 some a)
 (some ((0 : Rat)))
noncomputable def Zpk (t : (List (List Int))) (n : Int) (g : Unit) : Option (Rat × Rat) :=
 bnd (bnd (mk 8 ((t.length : Int)) ((t.length : Int))) fun an =>
 bnd (mk 8 ((t.length : Int)) ((t.length : Int))) fun ao =>
 some (((List.replicate ((t.length : Int)).toNat ((0 : Int))), (List.replicate ((t.length : Int)).toNat ((0 : Int))))))
 (fun (p : (List Int) × (List Int)) => match p with
 | (u, v) =>
 (bnd (bnd (Z1 (fun s : (List Int) × (List Int) × Int => match s with
 | (h, i, a) =>
 (ifb (decide (a < (t.length : Int)))
 (bnd (idx t a) fun j =>
 bnd (bnd (Z1 (fun s : (List Int) × (List Int) × Int => match s with
 | (e, f, b) =>
 (ifb (decide (b < (j.length : Int)))
 (bnd (idx j b) fun k =>
 bnd (idx e a) fun w =>
 bnd (chk .i64 (w + k)) fun x =>
 bnd (idx e a) fun ap =>
 bnd (idx f b) fun y =>
 bnd (chk .i64 (y + k)) fun z =>
 bnd (idx f b) fun aq =>
 bnd (chk .i64 (b + ((1 : Int)))) fun A =>
 some (.inl (((e.set (a).toNat x), (f.set (b).toNat z), A))))
 (some (.inr ((e, f)))))) Zga ((h, i, (0 : Int))))
 (fun (p : (List Int) × (List Int)) => match p with
 | (B, C) =>
 (some ((B, C)))))
 (fun (p : (List Int) × (List Int)) => match p with
 | (D, E) =>
 (bnd (chk .i64 (a + ((1 : Int)))) fun F =>
 some (.inl ((D, E, F))))))
 (some (.inr ((h, i)))))) Zga ((u, v, (0 : Int))))
 (fun (p : (List Int) × (List Int)) => match p with
 | (G, H) =>
 (some ((G, H)))))
 (fun (p : (List Int) × (List Int)) => match p with
 | (I, J) =>
 (bnd (bnd (Z1 (fun s : Rat × Rat × Int => match s with
 | (l, m, c) =>
 (ifb (decide (c < (t.length : Int)))
 (bnd (idx t c) fun o =>
 bnd (bnd (Z1 (fun s : Rat × Rat × Int => match s with
 | (q, r, d) =>
 (ifb (decide (d < (o.length : Int)))
 (bnd (idx o d) fun K =>
 bnd (ZXh c d) fun L =>
 bnd (ZDc K) fun M =>
 bnd (Z5c L M) fun N =>
 bnd (Zvc q N) fun O =>
 bnd (ZXh c d) fun P =>
 bnd (idx I c) fun Q =>
 bnd (ZDc Q) fun R =>
 bnd (Z5c P R) fun S =>
 bnd (idx J d) fun T =>
 bnd (ZDc T) fun U =>
 bnd (Z5c S U) fun V =>
 bnd (Zvc r V) fun W =>
 bnd (chk .i64 (d + ((1 : Int)))) fun X =>
 some (.inl ((O, W, X))))
 (some (.inr ((q, r)))))) Zga ((l, m, (0 : Int))))
 (fun (p : Rat × Rat) => match p with
 | (Y, Z) =>
 (some ((Y, Z)))))
 (fun (p : Rat × Rat) => match p with
 | (aa, ab) =>
 (bnd (chk .i64 (c + ((1 : Int)))) fun ac =>
 some (.inl ((aa, ab, ac))))))
 (some (.inr ((l, m)))))) Zga (((0 : Rat), (0 : Rat), (0 : Int))))
 (fun (p : Rat × Rat) => match p with
 | (ad, ae) =>
 (some ((ad, ae)))))
 (fun (p : Rat × Rat) => match p with
 | (af, ag) =>
 (bnd (ZDc n) fun ah =>
 bnd (Zvh af ah) fun ai =>
 bnd (ZDc n) fun aj =>
 bnd (ZDc n) fun ak =>
 bnd (Z5c aj ak) fun al =>
 bnd (Zvh ag al) fun am =>
 some ((ai, am))))))))
noncomputable def ZWk (r : (List Int)) (t : (List (List Int))) : Option (Bool) :=
 some (((r.length : Int)) != ((t.length : Int)))
noncomputable def ZHk (l : (List (List Int))) (g : (List (List Int))) : Option (Int) :=
 bnd (bnd (Z1 (fun s : Int => match s with
 | a =>
 (ifb (decide (a < (l.length : Int)))
 (bnd (idx l a) fun b =>
 bnd (ZWk b g) fun c =>
 ifb (c)
 (some (.inr ((.inl a))))
 (bnd (chk .i64 (a + ((1 : Int)))) fun d =>
 some (.inl d)))
 (some (.inr ((.inr (()))))))) Zga ((0 : Int)))
 (fun (p : (Int) ⊕ (Unit)) => match p with
 | .inl e =>
 (some ((.inr e)))
 | .inr (()) =>
 (some ((.inl (()))))))
 (fun (p : (Unit) ⊕ (Int)) => match p with
 | .inl (()) =>
 (some ((-1 : Int)))
 | .inr f =>
 (some f))
noncomputable def ZEk (l : (List (List Int))) (g : (List (List Int))) : Option (Bool) :=
 bnd (ZHk l g) fun a =>
 some (decide ((0 : Int) ≤ a))
noncomputable def Z1j (t : (List (List Int))) : Option (Int × Int) :=
 bnd (ifb (((t.length : Int)) == ((0 : Int)))
 (some ((t, true)))
 (ifb (decide ((8 : Int) < (t.length : Int)))
 (some ((t, true)))
 (bnd (ZEk t t) fun i =>
 some ((t, i)))))
 (fun (p : (List (List Int)) × Bool) => match p with
 | (d, j) =>
 (ifb (j)
 (some (((0 : Int), (4 : Int))))
 (bnd (bnd (Z1 (fun s : Int × Int => match s with
 | (e, a) =>
 (ifb (decide (a < (d.length : Int)))
 (bnd (idx d a) fun f =>
 bnd (bnd (Z1 (fun s : Int × Int => match s with
 | (g, b) =>
 (ifb (decide (b < (f.length : Int)))
 (bnd (idx f b) fun c =>
 bnd (ifb (decide (c < (0 : Int)))
 (some true)
 (some (decide ((1000000 : Int) < c))))
 (fun (k : Bool) =>
 (ifb (k)
 (some (.inr ((.inl (((0 : Int), (1 : Int)))))))
 (bnd (chk .i64 (g + c)) fun l =>
 bnd (chk .i64 (b + ((1 : Int)))) fun m =>
 some (.inl ((l, m)))))))
 (some (.inr ((.inr g)))))) Zga ((e, (0 : Int))))
 (fun (p : (Int × Int) ⊕ (Int)) => match p with
 | .inl ((n, o)) =>
 (some ((.inr ((n, o)))))
 | .inr q =>
 (some ((.inl q)))))
 (fun (p : (Int) ⊕ (Int × Int)) => match p with
 | .inl r =>
 (bnd (chk .i64 (a + ((1 : Int)))) fun u =>
 some (.inl ((r, u))))
 | .inr ((v, w)) =>
 (some (.inr ((.inl ((v, w))))))))
 (some (.inr ((.inr e)))))) Zga (((0 : Int), (0 : Int))))
 (fun (p : (Int × Int) ⊕ (Int)) => match p with
 | .inl ((x, y)) =>
 (some ((.inr ((x, y)))))
 | .inr z =>
 (some ((.inl z)))))
 (fun (p : (Int) ⊕ (Int × Int)) => match p with
 | .inl h =>
 (ifb (h == ((0 : Int)))
 (some (((0 : Int), (3 : Int))))
 (some ((h, (0 : Int)))))
 | .inr ((A, B)) =>
 (some ((A, B)))))))
noncomputable def Z2j (t : (List (List Int))) (g : Unit) : Option (Rat × Int) :=
 bnd (Z1j t) fun a =>
 ifb (a.2 != ((0 : Int)))
 (some (((0 : Rat), a.2)))
 (bnd (Zpk t a.1 (())) fun b =>
 bnd (bnd (ZEd b.1 b.2) fun d =>
 bnd (ZDc ((1 : Int))) fun e =>
 bnd (ZEd e b.2) fun f =>
 bnd (ZUe d f) fun c =>
 some ((c.2, c.1)))
 (fun (p : Int × Rat) => match p with
 | (h, i) =>
 (ifb (h != ((0 : Int)))
 (some (((0 : Rat), (5 : Int))))
 (some ((i, (0 : Int)))))))
noncomputable def ZLk (t : (List (List Int))) : Option (Rat × Int) :=
 bnd (Z2j t (())) fun a =>
 some ((a.1, a.2))
noncomputable def ZJg (l : (List (Int × Int))) : Option ((List Rat) × (List Rat)) :=
 bnd (bnd (Z1 (fun s : (List Rat) × (List Rat) × Int => match s with
 | (b, c, d) =>
 (ifb (decide (d < (l.length : Int)))
 (bnd (idx l d) fun a =>
 bnd (Zcc ((a.1, a.2))) fun e =>
 bnd (Z5a 56 (b ++ [e])) fun m =>
 bnd (Z9b ((a.1, a.2))) fun f =>
 bnd (Z5a 56 (c ++ [f])) fun n =>
 bnd (chk .i64 (d + ((1 : Int)))) fun g =>
 some (.inl (((b ++ [e]), (c ++ [f]), g))))
 (some (.inr ((b, c)))))) Zga ((([] : (List Rat)), ([] : (List Rat)), (0 : Int))))
 (fun (p : (List Rat) × (List Rat)) => match p with
 | (h, i) =>
 (some ((h, i)))))
 (fun (p : (List Rat) × (List Rat)) => match p with
 | (j, k) =>
 (some ((j, k))))
noncomputable def Zwf (step : (Int × Int)) (limits : (List (Int × Int))) : Option ((Rat × (List Rat)) × (Rat × (List Rat))) :=
 bnd (ZJg limits) fun a =>
 bnd (Zcc ((step.1, step.2))) fun b =>
 bnd (Z9b ((step.1, step.2))) fun c =>
 some (((b, a.1), (c, a.2)))
noncomputable def Zme  : Option (Bool) :=
 bnd (Zbk ((((2 : Int), (0 : Int)), ((1 : Int), (2 : Int)), ((4000 : Int), (0 : Int))))) fun a =>
 bnd (bnd (ZBd ((48 : Int))) fun f =>
 bnd (ZBd ((8 : Int))) fun g =>
 bnd (ZVk ((a.1.1, a.1.2.1, a.1.2.2)) f g) fun b =>
 some ((b.1, b.2)))
 (fun (p : Rat × Int) => match p with
 | (h, i) =>
 (bnd (ZLk ([[(20 : Int), (5 : Int)], [(10 : Int), (15 : Int)]])) fun c =>
 bnd (Zwf (((1 : Int), (10 : Int))) ([((1 : Int), (0 : Int)), ((2 : Int), (0 : Int))])) fun d =>
 bnd (Zcc (((206 : Int), (100 : Int)))) fun j =>
 bnd (ZFf ((d.1.1, d.1.2)) j) fun e =>
 bnd (ifb (i == ((0 : Int)))
 (ifb (c.2 == ((0 : Int)))
 (ifb (e.2 == ((0 : Int)))
 (bnd (Zae h) fun k =>
 ifb (k == (([53, 48] : List UInt8)))
 (bnd (Zae c.1) fun l =>
 ifb (l == (([50, 47, 53] : List UInt8)))
 (some (e.1 == ((2 : Int))))
 (some false))
 (some false))
 (some false))
 (some false))
 (some false))
 (fun (m : Bool) =>
 (some m))))
theorem ZOl {q : Rat} : 0 < q.num ↔ 0 < q := by
  have h1 := Rat.num_nonneg (q := q); have h2 := Rat.num_eq_zero (q := q); constructor
  · intro h; have h3 : 0 ≤ q := h1.1 (by omega); have h4 : q ≠ 0 := fun e => by have := h2.2 e; omega
    grind
  · intro h; have h3 : 0 ≤ q.num := h1.2 (by grind); have h4 : q.num ≠ 0 := fun e => by have := h2.1 e; grind
    omega
theorem num_neg {q : Rat} : q.num < 0 ↔ q < 0 := by
  have h1 := Rat.num_nonneg (q := q); constructor
  · intro h; rcases Rat.le_total (a := 0) (b := q) with h3 | h3
    · have := h1.2 h3; omega
    · have h4 : q ≠ 0 := fun e => by subst e; simp at h
      grind
  · intro h; rcases Int.lt_or_le q.num 0 with h3 | h3
    · exact h3
    · have := h1.1 h3; grind
theorem Zhi {q : Rat} : (0 < q.num.sign) ↔ 0 < q := by
  rw [← ZOl]; rcases Int.lt_trichotomy q.num 0 with h | h | h
  · rw [Int.sign_eq_neg_one_of_neg h]; omega
  · rw [h]; simp
  · rw [Int.sign_eq_one_of_pos h]; omega
theorem Zkh {q : Rat} : (q.num.sign < 0) ↔ q < 0 := by
  rw [← num_neg]; rcases Int.lt_trichotomy q.num 0 with h | h | h
  · rw [Int.sign_eq_neg_one_of_neg h]; omega
  · rw [h]; simp
  · rw [Int.sign_eq_one_of_pos h]; omega
theorem ZMh {q : Rat} : (q.num.sign ≤ 0) ↔ q ≤ 0 := by
  have h := Zhi (q := q); constructor
  · intro h1; rcases Rat.le_total (a := q) (b := 0) with h2 | h2
    · exact h2
    · by_cases h3 : q = 0
      · grind
      · have := h.2 (by grind); omega
  · intro h1; rcases Int.lt_or_le 0 q.num.sign with h2 | h2
    · have := h.1 h2; grind
    · exact h2
theorem Z5o {q : Rat} : (0 ≤ q.num.sign) ↔ 0 ≤ q := by
  have h := Zkh (q := q); constructor
  · intro h1; rcases Rat.le_total (a := 0) (b := q) with h2 | h2
    · exact h2
    · by_cases h3 : q = 0
      · grind
      · have := h.2 (by grind); omega
  · intro h1; rcases Int.lt_or_le q.num.sign 0 with h2 | h2
    · have := h.1 h2; grind
    · exact h2
theorem Z8m {q : Rat} : q.num.sign = 0 ↔ q = 0 := by
  rw [Int.sign_eq_zero_iff_zero, Rat.num_eq_zero]
def sz (k : Nat) (x : Rat) : Prop := bl x.num.natAbs ≤ k ∧ bl x.den ≤ k
theorem sz.mono {k m : Nat} {x : Rat} (h : sz k x) (hk : k ≤ m) : sz m x := ⟨by have := h.1; omega, by have := h.2; omega⟩
theorem sz.ok {k : Nat} {x : Rat} (h : sz k x) (hk : k ≤ 1099511627776) : okQ x := ⟨by have := h.1; omega, by have := h.2; omega⟩
theorem sz.sm {k : Nat} {x : Rat} (h : sz k x) (hk : k ≤ 68719476736) : smQ x := ⟨by have := h.1; omega, by have := h.2; omega⟩
theorem Zwd {k m : Nat} {x y : Rat} (h : sz k x) (h' : sz m y) : sz (k + m + 1) (x + y) := by
  have := Zkm x y; obtain ⟨a, b⟩ := h; obtain ⟨c, d⟩ := h'; exact ⟨by omega, by omega⟩
theorem sz_sub {k m : Nat} {x y : Rat} (h : sz k x) (h' : sz m y) : sz (k + m + 1) (x - y) := by
  have := Zfn x y; obtain ⟨a, b⟩ := h; obtain ⟨c, d⟩ := h'; exact ⟨by omega, by omega⟩
theorem ZGh {k m : Nat} {x y : Rat} (h : sz k x) (h' : sz m y) : sz (k + m) (x * y) := by
  have := Zsp x y; obtain ⟨a, b⟩ := h; obtain ⟨c, d⟩ := h'; exact ⟨by omega, by omega⟩
theorem Zmk {k m : Nat} {x y : Rat} (h : sz k x) (h' : sz m y) : sz (k + m + 1) (x / y) := by
  have := Zem (x := x) (y := y); obtain ⟨a, b⟩ := h; obtain ⟨c, d⟩ := h'; exact ⟨by omega, by omega⟩
theorem ZUh {n : Int} (h : -9223372036854775808 ≤ n ∧ n ≤ 9223372036854775807) : sz 64 (n : Rat) := by
  have h2 := Zmi n; have h3 : bl n.natAbs ≤ 64 := Zsc (show n.natAbs < 2 ^ 64 by omega); exact ⟨by omega, by omega⟩
def i64 (r : Int × Int) : Prop := (-9223372036854775808 ≤ r.1 ∧ r.1 ≤ 9223372036854775807) ∧ (-9223372036854775808 ≤ r.2 ∧ r.2 ≤ 9223372036854775807)
theorem ZGf {r : Int × Int} (h : i64 r) : sz 64 (ZSa r) := by
  unfold ZSa; by_cases h0 : r.2 = 0
  · rw [if_pos h0]; exact ZUh h.1
  · rw [if_neg h0, ZAi]; obtain ⟨⟨a, b⟩, c, d⟩ := h; rcases ZKi (if r.2 < 0 then -r.1 else r.1) r.2.natAbs with ⟨h1, h2⟩ | h1
    · have h3 : bl (if r.2 < 0 then -r.1 else r.1).natAbs ≤ 64 := Zsc (show _ < 2 ^ 64 by split <;> omega); have h4 : bl r.2.natAbs ≤ 64 := Zsc (show _ < 2 ^ 64 by omega); exact ⟨by omega, by omega⟩
    · omega
theorem Z0k {k m : Nat} {x y : Rat} (h : sz k x) (h' : sz m y) (hk : k + m ≤ 1000000000) : Zvc x y = some (x + y) := by unfold Zvc; rw [if_pos ⟨h.ok (by omega), h'.ok (by omega)⟩]
theorem Zxj {k m : Nat} {x y : Rat} (h : sz k x) (h' : sz m y) (hk : k + m ≤ 1000000000) : Z7c x y = some (x - y).num.sign := by unfold Z7c; rw [if_pos ⟨h.ok (by omega), h'.ok (by omega)⟩]
def decG : Nat → Nat → List UInt8
  | 0, _ => []
  | k + 1, n => if n = 0 then [] else decG k (n / 10) ++ [UInt8.ofNat (48 + n % 10)]
theorem Zjk : ∀ (k n : Nat), n ≤ k → decG k n = ZFa n
  | 0, n, h => by
    have : n = 0 := by omega
    subst this; rw [Zed]; rfl
  | k + 1, n, h => by
    by_cases h0 : n = 0
    · subst h0; rw [Zed]; rfl
    · rw [ZQe h0, decG, if_neg h0, Zjk k (n / 10) (by omega)]
def txtG (x : Rat) : List UInt8 := (if x.num < 0 then [45] else []) ++ (if x.num.natAbs = 0 then [48] else decG x.num.natAbs x.num.natAbs) ++ (if x.den = 1 then [] else 47 :: (if x.den = 0 then [48] else decG x.den x.den))
theorem txtG_eq : txtG = txtQ := by
  funext x
  unfold txtG txtQ Zvb; rw [Zjk _ _ (Nat.le_refl _), Zjk _ _ (Nat.le_refl _)]
def ZBl (x : Rat) : Option (List UInt8) := if okQ x then some (txtG x) else none
theorem Zcp : Zae = ZBl := by
  funext x
  unfold Zae ZBl; rw [txtG_eq]
set_option maxRecDepth 100000 in
theorem ZVp : Zme = some true := by
  unfold Zme; rw [Zcp]; decide +kernel
theorem ZYa {α β : Type} {x : Option α} {y : α} {f : α → Option β} {z : Option β} (h : x = some y) (h2 : f y = z) : bnd x f = z := by subst h; rw [Ze]; exact h2
theorem ZXd {S R : Type} {body : S → Option (S ⊕ R)} {s : S} {r : R} (st : Nat → S) (n : Nat) (h0 : st 0 = s) (hn : n < 2 ^ 64) (h : ∀ k, k < n → body (st k) = some (.inl (st (k + 1)))) (he : body (st n) = some (.inr r)) : Z1 body Zga s = some r := by
  have key : ∀ m f k, k + m = n → m < f → Z1 body f (st k) = some r := by
    intro m
    induction m with
    | zero =>
      intro f k hk hf; obtain ⟨f, rfl⟩ : ∃ g, f = g + 1 := ⟨f - 1, by omega⟩; obtain rfl : k = n := by omega
      unfold Z1; rw [he, Ze]
    | succ m ih =>
      intro f k hk hf; obtain ⟨f, rfl⟩ : ∃ g, f = g + 1 := ⟨f - 1, by omega⟩; unfold Z1; rw [h k (by omega), Ze]; exact ih f (k + 1) (by omega) (by omega)
  rw [← h0]; exact key n Zga 0 (by omega) (ZMa (by omega))
theorem Zqq {α : Type} {p : α → Bool} {l : List α} (h : l.any p = true) : ∃ m, ∃ hm : m < l.length, p l[m] = true ∧ ∀ j, (h : j < l.length) → j < m → p l[j] = false := by
  have hm : l.findIdx p < l.length := List.findIdx_lt_length.2 (List.any_eq_true.1 h); exact ⟨l.findIdx p, hm, List.findIdx_getElem, fun j hj hjm => by
    have := List.not_of_lt_findIdx hjm
    simpa using this⟩
theorem ZIp {α : Type} {p : α → Bool} {l : List α} (h : l.any p = false) : ∀ j, (hj : j < l.length) → p l[j] = false := fun j hj => by
  rw [List.any_eq_false] at h
  simpa using h l[j] (List.getElem_mem hj)
noncomputable def Zpi (x : Rat) : Option (Bool) :=
 bnd (Zzd x) fun a =>
 some (decide (a < (0 : Int)))
noncomputable def ZMi (l : (List Rat)) (g : Unit) : Option (Int) :=
 bnd (bnd (Z1 (fun s : Int => match s with
 | a =>
 (ifb (decide (a < (l.length : Int)))
 (bnd (idx l a) fun b =>
 bnd (Zpi b) fun c =>
 ifb (c)
 (some (.inr ((.inl a))))
 (bnd (chk .i64 (a + ((1 : Int)))) fun d =>
 some (.inl d)))
 (some (.inr ((.inr (()))))))) Zga ((0 : Int)))
 (fun (p : (Int) ⊕ (Unit)) => match p with
 | .inl e =>
 (some ((.inr e)))
 | .inr (()) =>
 (some ((.inl (()))))))
 (fun (p : (Unit) ⊕ (Int)) => match p with
 | .inl (()) =>
 (some ((-1 : Int)))
 | .inr f =>
 (some f))
noncomputable def ZLh (l : (List Rat)) (g : Unit) : Option (Bool) :=
 bnd (ZMi l (())) fun a =>
 some (decide ((0 : Int) ≤ a))
noncomputable def Z7f (l : (List Rat)) : Option (Bool) :=
 bnd (ZLh l (())) fun a =>
 some a
theorem ZMn (l : List Rat) (hl : l.length ≤ 4611686018427387904) : ZIh l () = some (l.any fun x => decide (x.num.sign ≤ 0)) := by
  unfold ZIh ZLj ZKj Zzd; rw [ZQa, ZQa]; refine Zeb (fun s : Int => ∃ k : Nat, s = (k : Int) ∧ k ≤ l.length ∧ (l.take k).any (fun x => decide (x.num.sign ≤ 0)) = false) (fun s => l.length - s.toNat)
      (fun r : Int ⊕ Unit => (∃ k : Nat, r = .inl (k : Int) ∧ l.any (fun x => decide (x.num.sign ≤ 0)) = true) ∨ r = .inr () ∧ l.any (fun x => decide (x.num.sign ≤ 0)) = false) ⟨0, rfl, by omega, rfl⟩ (ZMa (by simp; omega)) ?_ ?_
  · rintro s ⟨k, rfl, hk, ha⟩; simp only; by_cases h : k < l.length
    · rw [decide_eq_true (by omega), ZF, Zaa h, Ze, Ze, Ze]; by_cases h2 : l[k].num.sign ≤ 0
      · right; rw [decide_eq_true h2, ZF]; exact ⟨_, rfl, .inl ⟨k, rfl, List.any_eq_true.2 ⟨l[k], List.getElem_mem h, decide_eq_true h2⟩⟩⟩
      · left; rw [decide_eq_false h2, ZD, Zma (by omega) (by omega), Ze]; refine ⟨_, rfl, ⟨k + 1, by simp, by omega, ?_⟩, by simp; omega⟩; rw [List.take_succ_eq_append_getElem h, List.any_append, ha]; simp only [List.any_cons, List.any_nil, Bool.or_false, Bool.false_or]; exact decide_eq_false h2
    · right; rw [decide_eq_false (by omega), ZD]; rw [List.take_of_length_le (by omega)] at ha; exact ⟨_, rfl, .inr ⟨rfl, ha⟩⟩
  · rintro r (⟨k, rfl, h⟩ | ⟨rfl, h⟩)
    · rw [h]; simp only [Ze]; exact congrArg some (decide_eq_true (by omega))
    · rw [h]; rfl
theorem Zrp (l : List Rat) (hl : l.length ≤ 4611686018427387904) : ZLh l () = some (l.any fun x => decide (x.num.sign < 0)) := by
  unfold ZLh ZMi Zpi Zzd; rw [ZQa, ZQa]; refine Zeb (fun s : Int => ∃ k : Nat, s = (k : Int) ∧ k ≤ l.length ∧ (l.take k).any (fun x => decide (x.num.sign < 0)) = false) (fun s => l.length - s.toNat)
      (fun r : Int ⊕ Unit => (∃ k : Nat, r = .inl (k : Int) ∧ l.any (fun x => decide (x.num.sign < 0)) = true) ∨ r = .inr () ∧ l.any (fun x => decide (x.num.sign < 0)) = false) ⟨0, rfl, by omega, rfl⟩ (ZMa (by simp; omega)) ?_ ?_
  · rintro s ⟨k, rfl, hk, ha⟩; simp only; by_cases h : k < l.length
    · rw [decide_eq_true (by omega), ZF, Zaa h, Ze, Ze, Ze]; by_cases h2 : l[k].num.sign < 0
      · right; rw [decide_eq_true h2, ZF]; exact ⟨_, rfl, .inl ⟨k, rfl, List.any_eq_true.2 ⟨l[k], List.getElem_mem h, decide_eq_true h2⟩⟩⟩
      · left; rw [decide_eq_false h2, ZD, Zma (by omega) (by omega), Ze]; refine ⟨_, rfl, ⟨k + 1, by simp, by omega, ?_⟩, by simp; omega⟩; rw [List.take_succ_eq_append_getElem h, List.any_append, ha]; simp only [List.any_cons, List.any_nil, Bool.or_false, Bool.false_or]; exact decide_eq_false h2
    · right; rw [decide_eq_false (by omega), ZD]; rw [List.take_of_length_le (by omega)] at ha; exact ⟨_, rfl, .inr ⟨rfl, ha⟩⟩
  · rintro r (⟨k, rfl, h⟩ | ⟨rfl, h⟩)
    · rw [h]; simp only [Ze]; exact congrArg some (decide_eq_true (by omega))
    · rw [h]; rfl
theorem ZMo (l : List Rat) (hl : l.length ≤ 4611686018427387904) : ZKe l = some (l.all fun x => decide (0 < x)) := by
  unfold ZKe; rw [ZMn l hl, Ze, List.not_any_eq_all_not]; congr 2
  funext x
  rw [Bool.eq_iff_iff]; simp only [Bool.not_eq_true', decide_eq_false_iff_not, decide_eq_true_iff, ZMh]; grind
theorem ZTp (l : List Rat) (hl : l.length ≤ 4611686018427387904) : Z7f l = some (l.any fun x => decide (x < 0)) := by
  unfold Z7f; rw [Zrp l hl, Ze]; congr 2
  funext x
  exact decide_eq_decide.2 Zkh
theorem Zql (n : Int) : ZDc n = some (n : Rat) := by unfold ZDc ZBd; rw [Ze]
noncomputable def Zlh  : Option (Rat) :=
 bnd (Zyb ((1 : Int))) fun a =>
 some a
noncomputable def ZVf  : Option (Rat) :=
 bnd (Zyb ((0 : Int))) fun a =>
 some a
def ent (t : List (List Int)) (i k : Nat) : Int := (t.getD i []).getD k 0
def upd (l : List Int) (i : Nat) (x : Int) : List Int := l.set i (l.getD i 0 + x)
theorem ZIe {α : Type} {l : List α} {i : Nat} {d : α} (h : i < l.length) : l.getD i d = l[i] := by rw [List.getD_eq_getElem?_getD, List.getElem?_eq_getElem h]; rfl
def rcF (t : List (List Int)) (i k : Nat) (p : List Int × List Int) : List Int × List Int := (upd p.1 i (ent t i k), upd p.2 k (ent t i k))
def RC (n : Nat) (B : Int) (p : List Int × List Int) : Prop := p.1.length = n ∧ p.2.length = n ∧ (∀ x ∈ p.1, 0 ≤ x ∧ x ≤ B) ∧ (∀ x ∈ p.2, 0 ≤ x ∧ x ≤ B)
theorem RC.at1 {n : Nat} {B : Int} {p : List Int × List Int} (h : RC n B p) {i : Nat} (hi : i < n) : ∃ hh : i < p.1.length, 0 ≤ p.1[i] ∧ p.1[i] ≤ B ∧ p.1.getD i 0 = p.1[i] := by
  have h1 : i < p.1.length := by rw [h.1]; exact hi
  exact ⟨h1, (h.2.2.1 _ (List.getElem_mem h1)).1, (h.2.2.1 _ (List.getElem_mem h1)).2, ZIe h1⟩
theorem RC.at2 {n : Nat} {B : Int} {p : List Int × List Int} (h : RC n B p) {i : Nat} (hi : i < n) : ∃ hh : i < p.2.length, 0 ≤ p.2[i] ∧ p.2[i] ≤ B ∧ p.2.getD i 0 = p.2[i] := by
  have h1 : i < p.2.length := by rw [h.2.1]; exact hi
  exact ⟨h1, (h.2.2.2 _ (List.getElem_mem h1)).1, (h.2.2.2 _ (List.getElem_mem h1)).2, ZIe h1⟩
theorem Znn {l : List Int} {i : Nat} {x B : Int} (hx : 0 ≤ x ∧ x ≤ 1000000) (hi : i < l.length) (h : ∀ y ∈ l, 0 ≤ y ∧ y ≤ B) : ∀ y ∈ upd l i x, 0 ≤ y ∧ y ≤ B + 1000000 := by
  intro y hy; unfold upd at hy; have h2 := h _ (List.getElem_mem hi); rcases List.mem_or_eq_of_mem_set hy with h1 | h1
  · have := h y h1; omega
  · rw [ZIe hi] at h1; omega
structure Good (t : List (List Int)) : Prop where
  n0 : 0 < t.length
  n8 : t.length ≤ 8
  sq : ∀ i, (h : i < t.length) → t[i].length = t.length
  ok : ∀ i k, i < t.length → k < t.length → 0 ≤ ent t i k ∧ ent t i k ≤ 1000000
theorem RC.step {t : List (List Int)} (g : Good t) {B : Int} {p : List Int × List Int} {i k : Nat} (hi : i < t.length) (hk : k < t.length) (h : RC t.length B p) : RC t.length (B + 1000000) (rcF t i k p) :=
  ⟨by simp [rcF, upd, h.1], by simp [rcF, upd, h.2.1], Znn (g.ok i k hi hk) (by rw [h.1]; exact hi) h.2.2.1, Znn (g.ok i k hi hk) (by rw [h.2.1]; exact hk) h.2.2.2⟩
theorem RC.mono {n : Nat} {B C : Int} {p : List Int × List Int} (h : RC n B p) (hB : B ≤ C) : RC n C p :=
  ⟨h.1, h.2.1, fun x hx => by have := h.2.2.1 x hx; omega, fun x hx => by have := h.2.2.2 x hx; omega⟩
def pqF (t : List (List Int)) (w : Nat → Nat → Rat) (p : List Int × List Int) (i k : Nat) (s : Rat × Rat) : Rat × Rat :=
  (s.1 + w i k * ((ent t i k : Int) : Rat), s.2 + w i k * ((p.1.getD i 0 : Int) : Rat) * ((p.2.getD k 0 : Int) : Rat))
def SZ (k : Nat) (s : Rat × Rat) : Prop := sz k s.1 ∧ sz k s.2
theorem SZ.mono {k m : Nat} {s : Rat × Rat} (h : SZ k s) (hk : k ≤ m) : SZ m s := ⟨h.1.mono hk, h.2.mono hk⟩
theorem Zfg : sz 1 (0 : Rat) := by constructor <;> decide
section
variable {t : List (List Int)} {w : Nat → Nat → Rat} {p : List Int × List Int}
theorem SZ.step (g : Good t) (hw : ∀ i k, i < t.length → k < t.length → sz 200 (w i k)) (hp : RC t.length 64000000 p) {i k c : Nat} {s : Rat × Rat} (hi : i < t.length) (hk : k < t.length) (h : SZ c s) : SZ (c + 400) (pqF t w p i k s) := by
  have e := g.ok i k hi hk; obtain ⟨_, a1, a2, a3⟩ := hp.at1 hi; obtain ⟨_, b1, b2, b3⟩ := hp.at2 hk; refine ⟨(Zwd h.1 (ZGh (hw i k hi hk) (ZUh (n := ent t i k) (by omega)))).mono (by omega), (Zwd h.2 (ZGh (ZGh (hw i k hi hk) (ZUh (n := p.1.getD i 0) (by omega))) (ZUh (n := p.2.getD k 0) (by omega)))).mono (by omega)⟩
end
set_option maxRecDepth 100000
noncomputable def ZWg (x : Rat) : Option (Rat) :=
 bnd (Zec x) fun a =>
 bnd (Zwb (!(decide (x.num < 0))) x.num.natAbs a) fun b =>
 some b
noncomputable def Zeh (x : Rat) (y : Rat) : Option (Rat) :=
 bnd (Zec x) fun a =>
 bnd (Zec y) fun b =>
 bnd (Zfb x.num.natAbs b) fun c =>
 bnd (Zfb y.num.natAbs a) fun d =>
 ifb ((decide (x.num < 0)) == (decide (y.num < 0)))
 (bnd (Zze c d) fun e =>
 bnd (Zfb a b) fun f =>
 bnd (Zwb (decide (x.num < 0)) e f) fun g =>
 some g)
 (bnd (ZHd c d) fun h =>
 ifb (decide ((0 : Int) ≤ h))
 (bnd (ZMc c d) fun i =>
 bnd (Zfb a b) fun j =>
 bnd (Zwb (decide (x.num < 0)) i j) fun k =>
 some k)
 (bnd (ZMc d c) fun l =>
 bnd (Zfb a b) fun m =>
 bnd (Zwb (decide (y.num < 0)) l m) fun n =>
 some n))
noncomputable def Zwi (x : Rat) (y : Rat) : Option (Rat) :=
 bnd (Zsg y) fun a =>
 bnd (ZJd x a) fun b =>
 some b
noncomputable def Zij (x : Rat) (y : Rat) : Option (Rat) :=
 bnd (Zfb x.num.natAbs y.num.natAbs) fun a =>
 bnd (Zec x) fun b =>
 bnd (Zec y) fun c =>
 bnd (Zfb b c) fun d =>
 bnd (Zwb ((decide (x.num < 0)) != (decide (y.num < 0))) a d) fun e =>
 some e
noncomputable def Zyj (x : Rat) (y : Rat) : Option (Rat × Int) :=
 bnd (Z3d y) fun a =>
 ifb (a)
 (bnd (Zyb ((0 : Int))) fun b =>
 some ((b, (3 : Int))))
 (bnd (Zec y) fun c =>
 bnd (Zfb x.num.natAbs c) fun d =>
 bnd (Zec x) fun e =>
 bnd (Zfb e y.num.natAbs) fun f =>
 bnd (Zwb ((decide (x.num < 0)) != (decide (y.num < 0))) d f) fun g =>
 some ((g, (0 : Int))))
noncomputable def ZDj (x : Rat) (y : Rat) : Option (Rat) :=
 bnd (ZIg x y) fun a =>
 some a.1
noncomputable def ZWh (x : Rat) (y : Rat) : Option (Int) :=
 bnd (ZJe x y) fun a =>
 bnd (Zbd a) fun b =>
 some b
noncomputable def Zoj (x : Rat) (y : Rat) : Option (Bool) :=
 bnd (Ztd x y) fun a =>
 some (a == ((0 : Int)))
noncomputable def Zcj (x : Rat) : Option ((List UInt8)) :=
 bnd (Zbg x.num.natAbs) fun b =>
 bnd (ifb (decide (x.num < 0))
 (bnd (Z3d x) fun d =>
 some (!(d)))
 (some false))
 (fun (e : Bool) =>
 (bnd (ifb (e)
 (bnd (Zoc ((([45] : List UInt8)) ++ b)) fun j =>
 some (((([45] : List UInt8)) ++ b)))
 (some b))
 (fun (a : (List UInt8)) =>
 (bnd (Zec x) fun f =>
 bnd (Ztc ([(1 : Int)])) fun g =>
 bnd (ZHd f g) fun h =>
 bnd (ifb (decide ((0 : Int) < h))
 (bnd (Zoc (a ++ (([47] : List UInt8)))) fun k =>
 bnd (Zbg x.den) fun c =>
 bnd (Zoc (((a ++ (([47] : List UInt8)))) ++ c)) fun l =>
 some ((((a ++ (([47] : List UInt8)))) ++ c)))
 (some a))
 (fun (i : (List UInt8)) =>
 (some i))))))
theorem ZXb {n : Nat} (h : bl n ≤ 1099511627776) : Zcb n := ZNl (by omega)
theorem ZTb {n : Nat} (h : bl n ≤ 1099511627776) : ZLa n := by have := ZXb h; unfold Zcb at this; unfold ZLa; omega
theorem rneg_eq {x : Rat} (h : okQ x) : ZWg x = some (-x) := by
  obtain ⟨h1, h2⟩ := h; unfold ZWg Zec Zwb; rw [Ze, if_pos ⟨ZXb h1, ZXb h2, x.den_nz⟩, Ze]; congr 1; have e : sgn (!(decide (x.num < 0))) x.num.natAbs = -x.num := by
    unfold sgn; by_cases h : x.num < 0
    · simp [h]; omega
    · simp [h]; omega
  rw [e]; exact Rat.mkRat_self (-x)
theorem Zbr {x z : Rat} (h : Zsg x = some z) : ZWg x = some z := by
  unfold Zsg at h; split at h
  · rename_i hh; rw [rneg_eq hh, h]
  · cases h
theorem radd_eq {x y : Rat} (h : smQ x) (h' : smQ y) : Zeh x y = some (x + y) := by
  obtain ⟨a1, a2⟩ := h; obtain ⟨b1, b2⟩ := h'; unfold Zeh Zec; have p1 := ZDb x.num.natAbs y.den; have p2 := ZDb y.num.natAbs x.den; have p3 := ZDb x.den y.den; have p4 := ZQg (x.num.natAbs * y.den) (y.num.natAbs * x.den); have hd : x.den * y.den ≠ 0 := Nat.mul_ne_zero x.den_nz y.den_nz; have e1 : Zfb x.num.natAbs y.den = some (x.num.natAbs * y.den) := by unfold Zfb; rw [if_pos ⟨ZTb (by omega), ZTb (by omega)⟩]
  have e2 : Zfb y.num.natAbs x.den = some (y.num.natAbs * x.den) := by unfold Zfb; rw [if_pos ⟨ZTb (by omega), ZTb (by omega)⟩]
  have e3 : Zfb x.den y.den = some (x.den * y.den) := by unfold Zfb; rw [if_pos ⟨ZTb (by omega), ZTb (by omega)⟩]
  have eN : ((x.num.natAbs * y.den : Nat) : Int) = (x.num.natAbs : Int) * y.den := by simp
  have eM : ((y.num.natAbs * x.den : Nat) : Int) = (y.num.natAbs : Int) * x.den := by simp
  have key : ∀ (s : Bool) (n : Nat), bl n ≤ 1099511627776 → sgn s n = x.num * y.den + y.num * x.den → Zwb s n (x.den * y.den) = some (x + y) := by
    intro s n hn he; unfold Zwb; rw [if_pos ⟨ZXb hn, ZXb (by omega), hd⟩, he, ← Rat.add_def']
  rw [Ze, Ze, e1, Ze, e2, Ze, e3]; obtain ⟨N, hN⟩ : ∃ N, N = x.num.natAbs * y.den := ⟨_, rfl⟩; obtain ⟨M, hM⟩ : ∃ M, M = y.num.natAbs * x.den := ⟨_, rfl⟩; rw [← hN] at p1 p4 eN ⊢; rw [← hM] at p2 p4 eM ⊢; have sx : x.num * (y.den : Int) = if x.num < 0 then -(N : Int) else N := by
    split
    · rw [eN, ← Int.neg_mul]; congr 1; omega
    · rw [eN]; congr 1; omega
  have sy : y.num * (x.den : Int) = if y.num < 0 then -(M : Int) else M := by
    split
    · rw [eM, ← Int.neg_mul]; congr 1; omega
    · rw [eM]; congr 1; omega
  by_cases hs : (x.num < 0) ↔ (y.num < 0)
  · have e4 : Zze N M = some (N + M) := by unfold Zze; rw [if_pos ⟨ZTb (by omega), ZTb (by omega)⟩]
    have e5 : ((decide (x.num < 0)) == (decide (y.num < 0))) = true := by
      by_cases h : x.num < 0
      · simp [h, hs.1 h]
      · have h2 : ¬ y.num < 0 := fun k => h (hs.2 k); simp [h, h2]
    rw [e5, ZF, e4, Ze, Ze, key _ _ (by omega) ?_, Ze]; rw [sx, sy]; unfold sgn; by_cases h : x.num < 0
    · have h2 := hs.1 h; simp [h, h2]; omega
    · have h2 : ¬ y.num < 0 := fun k => h (hs.2 k); simp [h, h2]
  · have e5 : ((decide (x.num < 0)) == (decide (y.num < 0))) = false := by
      apply beq_false_of_ne; intro h; exact hs (by by_cases k : x.num < 0 <;> by_cases k2 : y.num < 0 <;> simp_all)
    rw [e5, ZD]; unfold ZHd; rw [Ze]; by_cases hle : M ≤ N
    · have e6 : decide ((0 : Int) ≤ Z9a N M) = true := by
        unfold Z9a; rw [if_neg (by omega)]; split <;> rfl
      have e4 : ZMc N M = some (N - M) := by unfold ZMc; rw [if_pos ⟨ZTb (by omega), hle⟩]
      have hb : bl (N - M) ≤ bl N := ZCc (by omega); rw [e6, ZF, e4, Ze, Ze, key _ _ (by omega) ?_, Ze]; rw [sx, sy]; unfold sgn; by_cases h : x.num < 0
      · have h2 : ¬ y.num < 0 := fun k => hs ⟨fun _ => k, fun _ => h⟩; simp [h, h2]; omega
      · have h2 : y.num < 0 := by
          rcases Int.lt_or_le y.num 0 with k | k
          · exact k
          · exact absurd ⟨fun q => absurd q h, fun q => absurd q (by omega)⟩ hs
        simp [h, h2]; omega
    · have e6 : decide ((0 : Int) ≤ Z9a N M) = false := by
        unfold Z9a; rw [if_pos (by omega)]; rfl
      have e4 : ZMc M N = some (M - N) := by unfold ZMc; rw [if_pos ⟨ZTb (by omega), by omega⟩]
      have hb : bl (M - N) ≤ bl M := ZCc (by omega); rw [e6, ZD, e4, Ze, Ze, key _ _ (by omega) ?_, Ze]; rw [sx, sy]; unfold sgn; by_cases h : x.num < 0
      · have h2 : ¬ y.num < 0 := fun k => hs ⟨fun _ => k, fun _ => h⟩; simp [h, h2]; omega
      · have h2 : y.num < 0 := by
          rcases Int.lt_or_le y.num 0 with k | k
          · exact k
          · exact absurd ⟨fun q => absurd q h, fun q => absurd q (by omega)⟩ hs
        simp [h, h2]; omega
theorem ZWo {x y z : Rat} (h : ZJd x y = some z) : Zeh x y = some z := by
  unfold ZJd at h; split at h
  · rename_i hh; rw [radd_eq hh.1 hh.2, h]
  · cases h
theorem smQ_neg {x : Rat} (h : smQ x) : smQ (-x) := by
  unfold smQ at *; have := Z5j x; rw [this.1, this.2]; exact h
theorem smQ_ok {x : Rat} (h : smQ x) : okQ x := by unfold smQ at h; unfold okQ; omega
theorem Zwp {x y z : Rat} (h : ZJe x y = some z) : Zwi x y = some z := by
  unfold ZJe at h; split at h
  · rename_i hh; unfold Zwi Zsg ZJd; rw [if_pos (smQ_ok hh.2), Ze, if_pos ⟨hh.1, smQ_neg hh.2⟩, Ze, ← Rat.sub_eq_add_neg]; exact h
  · cases h
theorem Z2o {x y z : Rat} (h : Z5e x y = some z) : Zij x y = some z := by
  unfold Z5e at h; split at h
  · rename_i hh; obtain ⟨⟨a1, a2⟩, b1, b2⟩ := hh
    cases h
    unfold Zij Zec; have p1 := ZDb x.num.natAbs y.num.natAbs; have p3 := ZDb x.den y.den; have e1 : Zfb x.num.natAbs y.num.natAbs = some (x.num.natAbs * y.num.natAbs) := by unfold Zfb; rw [if_pos ⟨ZTb (by omega), ZTb (by omega)⟩]
    have e3 : Zfb x.den y.den = some (x.den * y.den) := by unfold Zfb; rw [if_pos ⟨ZTb (by omega), ZTb (by omega)⟩]
    rw [e1, Ze, Ze, Ze, e3, Ze]; unfold Zwb; rw [if_pos ⟨ZXb (by omega), ZXb (by omega), Nat.mul_ne_zero x.den_nz y.den_nz⟩, Ze]; have e : sgn ((decide (x.num < 0)) != (decide (y.num < 0))) (x.num.natAbs * y.num.natAbs) = x.num * y.num := by
      have eN : ((x.num.natAbs * y.num.natAbs : Nat) : Int) = (x.num.natAbs : Int) * y.num.natAbs := by simp
      unfold sgn; rw [eN]; by_cases h : x.num < 0
      · have hx : (x.num.natAbs : Int) = -x.num := by omega
        by_cases h2 : y.num < 0
        · have hy : (y.num.natAbs : Int) = -y.num := by omega
          simp [h, h2, hx, hy, Int.neg_mul, Int.mul_neg]
        · have hy : (y.num.natAbs : Int) = y.num := by omega
          simp [h, h2, hx, hy, Int.neg_mul, Int.mul_neg]
      · have hx : (x.num.natAbs : Int) = x.num := by omega
        by_cases h2 : y.num < 0
        · have hy : (y.num.natAbs : Int) = -y.num := by omega
          simp [h, h2, hx, hy, Int.neg_mul, Int.mul_neg]
        · have hy : (y.num.natAbs : Int) = y.num := by omega
          simp [h, h2, hx, hy, Int.neg_mul, Int.mul_neg]
    rw [e, ← Rat.mul_def']
  · cases h
theorem Zsr {x y : Rat} {z : Rat × Int} (h : ZIg x y = some z) : Zyj x y = some z := by
  unfold ZIg at h; split at h
  · rename_i hh; obtain ⟨⟨a1, a2⟩, b1, b2⟩ := hh
    cases h
    unfold Zyj Z3d; rw [Ze]; by_cases h0 : y = 0
    · subst h0; rfl
    · rw [decide_eq_false h0, ZD, if_neg h0]; unfold Zec; have hn := Z8h h0; have p1 := ZDb x.num.natAbs y.den; have p3 := ZDb x.den y.num.natAbs; have e1 : Zfb x.num.natAbs y.den = some (x.num.natAbs * y.den) := by unfold Zfb; rw [if_pos ⟨ZTb (by omega), ZTb (by omega)⟩]
      have e3 : Zfb x.den y.num.natAbs = some (x.den * y.num.natAbs) := by unfold Zfb; rw [if_pos ⟨ZTb (by omega), ZTb (by omega)⟩]
      rw [Ze, e1, Ze, Ze, e3, Ze]; unfold Zwb; rw [if_pos ⟨ZXb (by omega), ZXb (by omega), Nat.mul_ne_zero x.den_nz (by omega)⟩, Ze]; have e : sgn ((decide (x.num < 0)) != (decide (y.num < 0))) (x.num.natAbs * y.den) = if y.num < 0 then -(x.num * (y.den : Int)) else x.num * (y.den : Int) := by
        have eN : ((x.num.natAbs * y.den : Nat) : Int) = (x.num.natAbs : Int) * y.den := by simp
        unfold sgn; rw [eN]; by_cases h : x.num < 0
        · have hx : (x.num.natAbs : Int) = -x.num := by omega
          by_cases h2 : y.num < 0 <;> simp [h, h2, hx, Int.neg_mul]
        · have hx : (x.num.natAbs : Int) = x.num := by omega
          by_cases h2 : y.num < 0 <;> simp [h, h2, hx, Int.neg_mul]
      rw [e, ← Znk h0]
  · cases h
theorem rbyF_eq {x y z : Rat} (h : rbyF x y = some z) : ZDj x y = some z := by
  unfold rbyF at h; split at h
  · rename_i hh
    cases h
    unfold ZDj ZIg; rw [if_pos hh, Ze]; split <;> rfl
  · cases h
theorem ZCp {x y : Rat} {z : Int} (h : Ztd x y = some z) : ZWh x y = some z := by
  unfold Ztd at h; split at h
  · rename_i hh
    cases h
    unfold ZWh ZJe Zbd; rw [if_pos hh, Ze, Ze]
  · cases h
theorem Zvp {x y : Rat} {z : Bool} (h : Zmf x y = some z) : Zoj x y = some z := by
  unfold Zmf at h; split at h
  · rename_i hh
    cases h
    unfold Zoj Ztd; rw [if_pos hh, Ze]; congr 1; rw [Bool.eq_iff_iff]; simp only [beq_iff_eq, decide_eq_true_iff, Int.sign_eq_zero_iff_zero, Rat.num_eq_zero]; constructor
    · intro h; grind
    · intro h; grind
  · cases h
theorem Zir {x : Rat} {z : List UInt8} (h : ZBh x = some z) : Zcj x = some z := by
  unfold ZBh at h; split at h
  · rename_i hh; obtain ⟨h1, h2⟩ := hh
    cases h
    unfold Zcj Zbg; have l1 := Zzi (n := x.num.natAbs) (by omega); have l2 := Zzi (n := x.den) (by omega); rw [if_pos (ZXb h1), Ze]; have e0 : ifb (decide (x.num < 0)) (bnd (Z3d x) fun y136 => some (!(y136))) (some false) = some (decide (x.num < 0)) := by
      unfold Z3d; by_cases h : x.num < 0
      · have : x ≠ 0 := fun e => by subst e; simp at h
        rw [decide_eq_true h, ZF, Ze, decide_eq_false this]; rfl
      · rw [decide_eq_false h, ZD]
    rw [e0, Ze]; have e1 : ifb (decide (x.num < 0)) (bnd (Zoc ([45] ++ Zvb x.num.natAbs)) fun y80 => some (([45] : List UInt8) ++ Zvb x.num.natAbs)) (some (Zvb x.num.natAbs)) = some ((if x.num < 0 then [45] else []) ++ Zvb x.num.natAbs) := by
      by_cases h : x.num < 0
      · rw [decide_eq_true h, ZF, Z4d (by simp; omega), Ze, if_pos h]
      · rw [decide_eq_false h, ZD, if_neg h]; rfl
    rw [e1, Ze]; unfold txtQ Zec ZHd; have l3 : ((if x.num < 0 then [45] else []) ++ Zvb x.num.natAbs : List UInt8).length ≤ 4398046511105 := by
      rw [List.length_append]; split <;> simp <;> omega
    generalize ((if x.num < 0 then [45] else []) ++ Zvb x.num.natAbs : List UInt8) = s at *; rw [Ze, ZPh, Ze, Ze, ZNm]; by_cases hd : x.den = 1
    · rw [hd]; simp [ifb, bnd]
    · have := x.den_nz; rw [decide_eq_true (by omega), ZF, Z4d (by simp; omega), Ze, if_pos (ZXb h2), Ze, Z4d (by simp; omega), Ze, Ze, if_neg hd]; simp
  · cases h
noncomputable def Zng (x : Rat) (y : Rat) : Option (Bool) :=
 bnd (Zae x) fun a =>
 bnd (ZBh y) fun b =>
 some (a == b)
set_option maxRecDepth 100000
theorem ZJj {k m : Nat} {x y : Rat} (h : sz k x) (h' : sz m y) (hk : k + m ≤ 1000000000) : ZJd x y = some (x + y) := by unfold ZJd; rw [if_pos ⟨h.sm (by omega), h'.sm (by omega)⟩]
theorem rsub_ok {k m : Nat} {x y : Rat} (h : sz k x) (h' : sz m y) (hk : k + m ≤ 1000000000) : ZJe x y = some (x - y) := by unfold ZJe; rw [if_pos ⟨h.sm (by omega), h'.sm (by omega)⟩]
theorem ZZj {k m : Nat} {x y : Rat} (h : sz k x) (h' : sz m y) (hk : k + m ≤ 1000000000) : Z5e x y = some (x * y) := by unfold Z5e; rw [if_pos ⟨h.sm (by omega), h'.sm (by omega)⟩]
theorem Zdm {k m : Nat} {x y : Rat} (h : sz k x) (h' : sz m y) (hk : k + m ≤ 1000000000) (hy : y ≠ 0) : rbyF x y = some (x / y) := by unfold rbyF; rw [if_pos ⟨h.sm (by omega), h'.sm (by omega)⟩, if_neg hy]
theorem Z8e {k m : Nat} {x y : Rat} (h : sz k x) (h' : sz m y) (hk : k + m ≤ 1000000000) : Ztd x y = some (x - y).num.sign := by unfold Ztd; rw [if_pos ⟨h.sm (by omega), h'.sm (by omega)⟩]
theorem ZAn {k m : Nat} {x y : Rat} (h : sz k x) (h' : sz m y) (hk : k + m ≤ 1000000000) : Zmf x y = some (decide (x = y)) := by unfold Zmf; rw [if_pos ⟨h.sm (by omega), h'.sm (by omega)⟩]
theorem is1_ok {k : Nat} {x : Rat} (h : sz k x) (hk : k ≤ 1000000000) : Zng x x = some true := by
  unfold Zng Zae ZBh; rw [if_pos (h.ok (by omega)), Ze, Ze]; simp
theorem Zkl : ZVf = some (0 : Rat) := by unfold ZVf Zyb; rw [Ze]; rfl
theorem one8_eq : Zlh = some (1 : Rat) := by unfold Zlh Zyb; rw [Ze]; rfl
theorem Z7e : sz 1 (1 : Rat) := by constructor <;> decide
set_option maxRecDepth 100000
def Zbb {E S R : Type} (f : E → S → R ⊕ S) (fin : S → R) : List E → S → R
  | [], s => fin s
  | e :: l, s => match f e s with
    | .inl r => r
    | .inr s' => Zbb f fin l s'
theorem Zqi {E S R σ : Type} {body : σ → Option (σ ⊕ R)} (l : List E) (enc : S → Nat → σ) (f : E → S → R ⊕ S) (fin : S → R) (I : Nat → S → Prop) {s0 : S} {s : σ} (hs : enc s0 0 = s) (h0 : I 0 s0) (hlen : l.length < 2 ^ 64)
    (h1 : ∀ i s r, (hi : i < l.length) → I i s → f l[i] s = .inl r → body (enc s i) = some (.inr r)) (h2 : ∀ i s s', (hi : i < l.length) → I i s → f l[i] s = .inr s' → body (enc s i) = some (.inl (enc s' (i + 1))) ∧ I (i + 1) s')
    (he : ∀ s, I l.length s → body (enc s l.length) = some (.inr (fin s))) : Z1 body Zga s = some (Zbb f fin l s0) := by
  have key : ∀ m F i s, i + m = l.length → m < F → I i s → Z1 body F (enc s i) = some (Zbb f fin (l.drop i) s) := by
    intro m
    induction m with
    | zero =>
      intro F i s hi hF hI; obtain ⟨F, rfl⟩ : ∃ g, F = g + 1 := ⟨F - 1, by omega⟩; obtain rfl : i = l.length := by omega
      unfold Z1; rw [he s hI, Ze, List.drop_length]; rfl
    | succ m ih =>
      intro F i s hi hF hI; obtain ⟨F, rfl⟩ : ∃ g, F = g + 1 := ⟨F - 1, by omega⟩; have hi' : i < l.length := by omega
      unfold Z1; rw [List.drop_eq_getElem_cons hi']; unfold Zbb
      cases hf : f l[i] s with
      | inl r => rw [h1 i s r hi' hI hf, Ze]
      | inr s' =>
        have := h2 i s s' hi' hI hf; rw [this.1, Ze]; exact ih F (i + 1) s' (by omega) (by omega) this.2
  rw [← hs]; exact key l.length Zga 0 s0 (by omega) (ZMa (by omega)) h0
abbrev RR2 := Rat × Rat
def Zac (l : List ((Int × Int) × (Int × Int))) : List RR2 := l.map fun x => (ZSa x.1, ZSa x.2)
def flr (x : Rat) : Int := x.num / (x.den : Int)
def Znf (x : Rat) : Option Rat := if smQ x then some ((flr x : Int) : Rat) else none
noncomputable def ZCj (x : Rat) : Option (Rat) :=
 bnd (Zec x) fun b =>
 bnd (ZWc x.num.natAbs b) fun a =>
 bnd (ifb (decide (x.num < 0))
 (some (decide ((0 : Int) < (((Zj 4294967296 a.2)).length : Int))))
 (some false))
 (fun (c : Bool) =>
 (bnd (ifb (c)
 (bnd (Ztc ([(1 : Int)])) fun d =>
 bnd (Zze a.1 d) fun e =>
 some e)
 (some a.1))
 (fun (f : Nat) =>
 (bnd (Ztc ([(1 : Int)])) fun g =>
 bnd (Zwb (decide (x.num < 0)) f g) fun h =>
 some h))))
theorem Zeo {x z : Rat} (h : Znf x = some z) : ZCj x = some z := by
  unfold Znf at h; split at h
  · rename_i hh
    cases h
    obtain ⟨b1, b2⟩ := hh; unfold ZCj Zec ZWc; have hd := x.den_nz; have hd0 : 0 < x.den := Nat.pos_of_ne_zero hd; have q1 : bl (x.num.natAbs / x.den) ≤ bl x.num.natAbs := ZCc (Nat.div_le_self _ _); rw [Ze, if_pos ⟨ZXb (by omega), ZXb (by omega), hd⟩, Ze, ZPh]; simp only; have hl : decide ((0 : Int) < ((Zj 4294967296 (x.num.natAbs % x.den)).length : Int)) = decide (x.num.natAbs % x.den ≠ 0) := by
      refine decide_eq_decide.2 ?_; constructor
      · intro h h0; rw [h0] at h; simp [Zj] at h
      · intro h; have := (ZFc (B := 4294967296) (by decide)).2 h; have : (Zj 4294967296 (x.num.natAbs % x.den)).length ≠ 0 := fun hh => this (List.length_eq_zero_iff.1 hh); omega
    rw [hl]; unfold flr; by_cases hn : x.num < 0
    · obtain ⟨n, hN⟩ : ∃ n : Nat, x.num = -(n : Int) := ⟨x.num.natAbs, by omega⟩; have hna : x.num.natAbs = n := by omega
      rw [decide_eq_true hn, ZF, Ze]; rw [hna] at b1 q1 ⊢; rw [hN]; clear hl hN hn hna; generalize hdd : x.den = d at *; have hfd : ∀ q : Nat, mkRat (sgn true q) 1 = ((-(q : Int) : Int) : Rat) := fun q => ZPi _; by_cases hr : n % d = 0
      · have e : -(n : Int) / (d : Int) = -((n / d : Nat) : Int) := by
          obtain ⟨k, hk⟩ := Nat.dvd_of_mod_eq_zero hr; subst hk; rw [Nat.mul_div_cancel_left _ hd0, Int.natCast_mul, ← Int.mul_neg, Int.mul_ediv_cancel_left _ (by omega)]
        rw [decide_eq_false (by omega), ZD, Ze, Ze]; unfold Zwb; rw [if_pos ⟨ZXb (by omega), ZXb (by decide), by decide⟩, Ze, hfd, e]
      · have e : -(n : Int) / (d : Int) = -((n / d + 1 : Nat) : Int) := by
          have h1 := Nat.div_add_mod n d; have h2 := Nat.mod_lt n hd0; generalize hq : n / d = q at *; have h3 : (n : Int) = (d : Int) * q + ((n % d : Nat) : Int) := by rw [← h1]; simp
          generalize (n % d) = m at *; refine Int.le_antisymm ?_ ?_
          · refine Int.lt_add_one_iff.1 (Int.ediv_lt_of_lt_mul (by omega) ?_); rw [h3]
            push_cast
            have : (-((q : Int) + 1) + 1) * (d : Int) = -((d : Int) * q) := by rw [Int.mul_comm]; grind
            omega
          · refine (Int.le_ediv_iff_mul_le (by omega)).2 ?_; rw [h3]
            push_cast
            have : -((q : Int) + 1) * (d : Int) = -((d : Int) * q) - d := by grind
            omega
        have b3 : bl (n / d + 1) ≤ bl n + 2 := by
          have h2 := ZCc (Nat.div_le_self n d); have h3 := ZQg (n / d) 1; have h4 : bl 1 = 1 := by decide
          have h5 : bl (n / d) = 0 ∨ 1 ≤ bl (n / d) := by omega
          omega
        rw [decide_eq_true hr, ZF, Ze]; unfold Zze Zwb; rw [if_pos ⟨ZTb (by omega), ZTb (by decide)⟩, Ze, Ze, Ze, if_pos ⟨ZXb (by omega), ZXb (by decide), by decide⟩, Ze, hfd, e]
    · obtain ⟨n, hN⟩ : ∃ n : Nat, x.num = (n : Int) := ⟨x.num.natAbs, by omega⟩; have hna : x.num.natAbs = n := by omega
      rw [decide_eq_false hn, ZD, Ze, ZD, Ze, Ze]; rw [hna] at b1 q1 ⊢; rw [hN]; unfold Zwb; rw [if_pos ⟨ZXb (by omega), ZXb (by decide), by decide⟩, Ze]; have hfd : ∀ q : Nat, mkRat (sgn false q) 1 = ((q : Int) : Rat) := fun q => ZPi _; rw [hfd]; rfl
  · cases h
noncomputable def ZJh (t : (Rat × (List Rat))) : Option (Int) :=
 bnd (Zbd t.1) fun b =>
 ifb (decide (b ≤ (0 : Int)))
 (some ((1 : Int)))
 (bnd (ifb (decide ((t.2.length : Int) < (1 : Int)))
 (some true)
 (some (decide ((16 : Int) ≤ (t.2.length : Int)))))
 (fun (c : Bool) =>
 (ifb (c)
 (some ((4 : Int)))
 (bnd (bnd (Z1 (fun s : Int => match s with
 | a =>
 (ifb (decide (a < (t.2.length : Int)))
 (bnd (idx t.2 a) fun d =>
 bnd (chk .i64 (a - ((1 : Int)))) fun e =>
 bnd (idx t.2 e) fun f =>
 bnd (Ztd d f) fun g =>
 ifb (decide (g ≤ (0 : Int)))
 (some (.inr ((.inl ((7 : Int))))))
 (bnd (chk .i64 (a + ((1 : Int)))) fun h =>
 some (.inl h)))
 (some (.inr ((.inr (()))))))) Zga ((1 : Int)))
 (fun (p : (Int) ⊕ (Unit)) => match p with
 | .inl i =>
 (some ((.inr i)))
 | .inr (()) =>
 (some ((.inl (()))))))
 (fun (p : (Unit) ⊕ (Int)) => match p with
 | .inl (()) =>
 (some ((0 : Int)))
 | .inr j =>
 (some j))))))
noncomputable def Zsh (x : Rat) (step : Rat) : Option (Rat × Int) :=
 bnd (Zbd step) fun e =>
 ifb (decide (e ≤ (0 : Int)))
 (bnd (Zyb ((0 : Int))) fun f =>
 some ((f, (1 : Int))))
 (bnd (rbyF x step) fun b =>
 bnd (Znf b) fun a =>
 bnd (bnd (Zyb ((2 : Int))) fun g =>
 bnd (ZJe b a) fun h =>
 bnd (Z5e g h) fun i =>
 some i)
 (fun (j : Rat) =>
 (bnd (Zyb ((1 : Int))) fun k =>
 bnd (Ztd j k) fun c =>
 bnd (bnd (Zyb ((2 : Int))) fun l =>
 bnd (rbyF a l) fun m =>
 some m)
 (fun (d : Rat) =>
 (bnd (ifb (decide ((0 : Int) < c))
 (some true)
 (ifb (c == ((0 : Int)))
 (bnd (Znf d) fun n =>
 bnd (Zmf d n) fun o =>
 some (!(o)))
 (some false)))
 (fun (p : Bool) =>
 (bnd (ifb (p)
 (bnd (Zyb ((1 : Int))) fun q =>
 bnd (ZJd a q) fun r =>
 some r)
 (some a))
 (fun (s : Rat) =>
 (bnd (Z5e s step) fun t =>
 some ((t, (0 : Int))))))))))))
noncomputable def Z2f (t : (Rat × (List Rat))) (x : Rat) : Option (Int) :=
 bnd (Zsh x t.1) fun b =>
 bnd (bnd (Z1 (fun s : Int => match s with
 | a =>
 (ifb (decide (a < (t.2.length : Int)))
 (bnd (idx t.2 a) fun c =>
 bnd (Ztd b.1 c) fun d =>
 ifb (decide (d ≤ (0 : Int)))
 (some (.inr ((.inl a))))
 (bnd (chk .i64 (a + ((1 : Int)))) fun e =>
 some (.inl e)))
 (some (.inr ((.inr (()))))))) Zga ((0 : Int)))
 (fun (p : (Int) ⊕ (Unit)) => match p with
 | .inl f =>
 (some ((.inr f)))
 | .inr (()) =>
 (some ((.inl (()))))))
 (fun (p : (Unit) ⊕ (Int)) => match p with
 | .inl (()) =>
 (some ((t.2.length : Int)))
 | .inr g =>
 (some g))
set_option maxRecDepth 100000
theorem Zbn {R : Type} {body : Int → Option (Int ⊕ (R ⊕ Unit))} (n c : Nat) (p : Nat → Bool) (r : R) (hc : ∀ i, i < c → p i = false) (hcn : c ≤ n) (hn : n < 2 ^ 62) (h1 : ∀ i, c ≤ i → i < n → body (i : Int) = if p i then some (.inr (.inl r)) else some (.inl ((i : Int) + 1)))
    (he : body (n : Int) = some (.inr (.inr ()))) : Z1 body Zga (c : Int) = some (if (List.range n).any p then .inl r else .inr ()) := by
  by_cases h : (List.range n).any p = true
  · obtain ⟨m, hm, g1, g2⟩ := Zqq h; rw [List.length_range] at hm; rw [List.getElem_range] at g1; have hcm : c ≤ m := by
      rcases Nat.lt_or_ge m c with h | h
      · rw [hc m h] at g1; cases g1
      · exact h
    rw [if_pos h]; refine ZXd (fun k => ((c + k : Nat) : Int)) (m - c) (by simp) (by omega) (fun k hk => ?_) ?_
    · have := g2 (c + k) (by rw [List.length_range]; omega) (by omega); rw [List.getElem_range] at this; rw [h1 (c + k) (by omega) (by omega), this, if_neg (by simp)]; rfl
    · rw [show c + (m - c) = m by omega, h1 m hcm hm, g1, if_pos rfl]
  · have h' : (List.range n).any p = false := by simpa using h
    rw [if_neg h]; refine ZXd (fun k => ((c + k : Nat) : Int)) (n - c) (by simp) (by omega) (fun k hk => ?_) ?_
    · have := ZIp h' (c + k) (by rw [List.length_range]; omega); rw [List.getElem_range] at this; rw [h1 (c + k) (by omega) (by omega), this, if_neg (by simp)]; rfl
    · rw [show c + (n - c) = n by omega, he]
def Z0b (l : List Rat) (i : Nat) : Bool := decide (0 < i) && decide (l.getD i 0 ≤ l.getD (i - 1) 0)
abbrev Lab := Rat × List Rat
def Zsb (t : Lab) : Int := if t.1 ≤ 0 then 1 else if t.2.length = 0 ∨ 16 ≤ t.2.length then 4 else if (List.range t.2.length).any (Z0b t.2) then 7 else 0
def szR (l : List Rat) : Prop := ∀ i, (h : i < l.length) → sz 64 l[i]
theorem szR.at {l : List Rat} (h : szR l) {i : Nat} (hi : i < l.length) : sz 64 (l.getD i 0) := by rw [ZIe hi]; exact h i hi
theorem abv1 (x : Rat) : ZKe [x] = some (decide (0 < x)) := by rw [ZMo _ (by simp)]; simp
theorem ZGl {x : Rat} : (!decide (0 < x)) = decide (x ≤ 0) := by
  rw [Bool.eq_iff_iff]; simp only [decide_eq_true_iff, Bool.not_eq_true', decide_eq_false_iff_not]; grind
theorem Z4g {x y : Rat} : ((x - y).num.sign ≤ 0) ↔ x ≤ y := by rw [ZMh]; constructor <;> intro h <;> grind
theorem sgn_ge {x y : Rat} : (0 ≤ (x - y).num.sign) ↔ y ≤ x := by rw [Z5o]; constructor <;> intro h <;> grind
theorem Zpn {x y : Rat} : ((x - y).num.sign < 0) ↔ x < y := by rw [Zkh]; constructor <;> intro h <;> grind
theorem Ztl {x y : Rat} : (0 < (x - y).num.sign) ↔ y < x := by rw [Zhi]; constructor <;> intro h <;> grind
theorem Znl {t : Lab} (h : szR t.2) : Z0f t = some (Zsb t) := by
  unfold Z0f Zsb; rw [abv1, Ze, ZGl]; by_cases h0 : t.1 ≤ 0
  · rw [decide_eq_true h0, ZF, if_pos h0]
  rw [decide_eq_false h0, ZD, if_neg h0]; by_cases h1 : t.2.length = 0
  · rw [if_pos (.inl h1), h1]; rfl
  have e0 : ((t.2.length : Int) == 0) = false := by rw [Bool.eq_false_iff]; intro h; rw [beq_iff_eq] at h; omega
  rw [e0, ZD, Ze]; by_cases h2 : 16 ≤ t.2.length
  · rw [if_pos (.inr h2), decide_eq_true (by omega), ZF]
  rw [if_neg (by omega), decide_eq_false (by omega), ZD]; have hloop : ∀ {body : Int → Option (Int ⊕ (Int ⊕ Unit))}, (∀ i, 0 ≤ i → i < t.2.length → body (i : Int) = if Z0b t.2 i then some (.inr (.inl 7)) else some (.inl ((i : Int) + 1))) → body (t.2.length : Int) = some (.inr (.inr ())) → Z1 body Zga 0 = some (if (List.range t.2.length).any (Z0b t.2) then .inl 7 else .inr ()) := fun h1 he => Zbn t.2.length 0 (Z0b t.2) 7 (fun i hi => by omega) (by omega) (by omega) h1 he; refine ZYa (y := if (List.range t.2.length).any (Z0b t.2) then .inr (7 : Int) else .inl ()) (ZYa (hloop (fun i _ hi => ?_) ?_) ?_) ?_
  · simp only; have ga := ZIe (d := (0 : Rat)) hi; rw [decide_eq_true (by omega), ZF, Zaa hi, Ze]; have e : ifb (decide ((0 : Int) < (i : Int))) (bnd (chk .i64 ((i : Int) - ((1 : Int)))) fun y138 => bnd (idx t.2 y138) fun y140 => bnd (Z7c t.2[i] y140) fun y148 => some (decide (y148 ≤ (0 : Int)))) (some false) = some (Z0b t.2 i) := by
      unfold Z0b; by_cases hi0 : i = 0
      · subst hi0; rfl
      · have e1 : (i : Int) - 1 = ((i - 1 : Nat) : Int) := by omega
        have gb := ZIe (d := (0 : Rat)) (show i - 1 < t.2.length by omega); rw [decide_eq_true (by omega), ZF, Zma (by omega) (by omega), Ze, e1, Zaa (by omega), Ze, Zxj (h i hi) (h (i - 1) (by omega)) (by omega), Ze, ga, gb, decide_eq_true (show 0 < i by omega), Bool.true_and]; exact congrArg some (decide_eq_decide.2 Z4g)
    rw [e, Ze]
    cases hb : Z0b t.2 i
    · rw [ZD, Zma (by omega) (by omega), Ze, if_neg (by simp)]
    · rw [ZF, if_pos rfl]
  · simp only; rw [decide_eq_false (by omega), ZD]
  · generalize (List.range t.2.length).any (Z0b t.2) = b; cases b <;> rfl
  · generalize (List.range t.2.length).any (Z0b t.2) = b; cases b <;> rfl
theorem ZYp {t : Lab} (h : szR t.2) : ZJh t = some (Zsb t) := by
  unfold ZJh Zsb Zbd; rw [Ze, decide_eq_decide.2 (ZMh (q := t.1))]; by_cases h0 : t.1 ≤ 0
  · rw [decide_eq_true h0, ZF, if_pos h0]
  rw [decide_eq_false h0, ZD, if_neg h0]; by_cases h1 : t.2.length = 0
  · rw [if_pos (.inl h1), h1]; rfl
  rw [decide_eq_false (by omega), ZD, Ze]; by_cases h2 : 16 ≤ t.2.length
  · rw [if_pos (.inr h2), decide_eq_true (by omega), ZF]
  rw [if_neg (by omega), decide_eq_false (by omega), ZD]; have hloop : ∀ {body : Int → Option (Int ⊕ (Int ⊕ Unit))}, (∀ i, 1 ≤ i → i < t.2.length → body (i : Int) = if Z0b t.2 i then some (.inr (.inl 7)) else some (.inl ((i : Int) + 1))) → body (t.2.length : Int) = some (.inr (.inr ())) → Z1 body Zga 1 = some (if (List.range t.2.length).any (Z0b t.2) then .inl 7 else .inr ()) := by
    intro body g1 g2; exact Zbn t.2.length 1 (Z0b t.2) 7 (fun i hi => by
      have : i = 0 := by omega
      rw [this]; rfl) (by omega) (by omega) g1 g2
  refine ZYa (y := if (List.range t.2.length).any (Z0b t.2) then .inr (7 : Int) else .inl ()) (ZYa (hloop (fun i hi1 hi => ?_) ?_) ?_) ?_
  · simp only; have ga := ZIe (d := (0 : Rat)) hi; have e1 : (i : Int) - 1 = ((i - 1 : Nat) : Int) := by omega
    have gb := ZIe (d := (0 : Rat)) (show i - 1 < t.2.length by omega); rw [decide_eq_true (by omega), ZF, Zaa hi, Ze, Zma (by omega) (by omega), Ze, e1, Zaa (by omega), Ze, Z8e (h i hi) (h (i - 1) (by omega)) (by omega), Ze, decide_eq_decide.2 Z4g]; have e : Z0b t.2 i = decide (t.2[i] ≤ t.2[i - 1]) := by unfold Z0b; rw [ga, gb, decide_eq_true (show 0 < i by omega), Bool.true_and]
    rw [← e]
    cases hb : Z0b t.2 i
    · rw [ZD, Zma (by omega) (by omega), Ze, if_neg (by simp)]
    · rw [ZF, if_pos rfl]
  · simp only; rw [decide_eq_false (by omega), ZD]
  · generalize (List.range t.2.length).any (Z0b t.2) = b; cases b <;> rfl
  · generalize (List.range t.2.length).any (Z0b t.2) = b; cases b <;> rfl
theorem flr_eq (x : Rat) : flr x = x.floor := (Rat.floor_def x).symm
theorem Z9l (q : Rat) : rnd q = if 0 < (q - (flr q : Rat) - mkRat 1 2).num.sign ∨ (q - (flr q : Rat) - mkRat 1 2).num.sign = 0 ∧ (flr q).natAbs % 2 = 1 then flr q + 1 else flr q := rfl
theorem half : mkRat 1 2 = 1 / 2 := by rw [Rat.mkRat_eq_div]; rfl
theorem Zoi {k : Nat} {x : Rat} (h : sz k x) : sz (k + 1) ((flr x : Int) : Rat) := by
  have h2 := Zmi (flr x); have h3 := ZCc (Zyi x.num x.den); obtain ⟨a, b⟩ := h; have h4 : bl (flr x).natAbs ≤ bl x.num.natAbs := h3; exact ⟨by omega, by omega⟩
theorem ZXi : sz 2 (2 : Rat) := by constructor <;> decide
theorem rnd_sz {k : Nat} {x : Rat} (h : sz k x) : sz (k + 3) ((rnd x : Int) : Rat) := by
  rw [Z9l]; split
  · rw [Rat.intCast_add]; exact (Zwd (Zoi h) Z7e).mono (by omega)
  · exact (Zoi h).mono (by omega)
def rdm (x s : Rat) : Rat := (rnd (x / s) : Rat) * s
theorem Z7l {k m : Nat} {x s : Rat} (h : sz k x) (h' : sz m s) : sz (k + 2 * m + 4) (rdm x s) := (ZGh (rnd_sz (Zmk h h')) h').mono (by omega)
theorem ZXo {k m : Nat} {x s : Rat} (h : sz k x) (h' : sz m s) (hk : k + m ≤ 1000000000) (hs : 0 < s) : ZKf x s = some (rdm x s, 0) := by
  unfold ZKf rdm; rw [if_pos ⟨h.sm (by omega), h'.sm (by omega)⟩, if_neg (by have := ZOl.2 hs; omega)]
theorem Zym {k : Nat} {x : Rat} (h : sz k x) (hk : k ≤ 1000000000) : Znf x = some ((flr x : Int) : Rat) := by unfold Znf; rw [if_pos (h.sm (by omega))]
theorem ZSq (n : Int) : decide (((n : Int) : Rat) / 2 = ((flr ((n : Rat) / 2) : Int) : Rat)) = decide (n.natAbs % 2 ≠ 1) := by
  refine decide_eq_decide.2 ?_; have h1 : flr ((n : Rat) / 2) = n / 2 := by
    rw [flr_eq]; refine Int.le_antisymm ?_ ?_
    · refine Int.lt_add_one_iff.1 (Rat.floor_lt_iff.2 ?_); have h2 : n < 2 * (n / 2 + 1) := by omega
      have h3 : (n : Rat) < ((2 * (n / 2 + 1) : Int) : Rat) := Rat.intCast_lt_intCast.2 h2; rw [Rat.intCast_mul] at h3; have h4 : ((2 : Int) : Rat) = 2 := rfl; rw [h4] at h3; grind
    · refine Rat.le_floor_iff.2 ?_; have h2 : 2 * (n / 2) ≤ n := by omega
      have h3 : ((2 * (n / 2) : Int) : Rat) ≤ (n : Rat) := Rat.intCast_le_intCast.2 h2; rw [Rat.intCast_mul] at h3; have h4 : ((2 : Int) : Rat) = 2 := rfl; rw [h4] at h3; grind
  rw [h1]; constructor
  · intro h; have h2 : (n : Rat) = ((2 * (n / 2) : Int) : Rat) := by
      rw [Rat.intCast_mul]; have h4 : ((2 : Int) : Rat) = 2 := rfl; rw [h4]; grind
    have := Rat.intCast_inj.1 h2; omega
  · intro h; have h2 : n = 2 * (n / 2) := by omega
    have h3 : (n : Rat) = ((2 * (n / 2) : Int) : Rat) := by rw [← h2]
    rw [Rat.intCast_mul] at h3; have h4 : ((2 : Int) : Rat) = 2 := rfl; rw [h4] at h3; grind
theorem odd_tie (c : Int) (n : Nat) : ifb (decide (0 < c)) (some true) (ifb (c == 0) (some (!(decide (n % 2 ≠ 1)))) (some false)) = some (decide (0 < c ∨ c = 0 ∧ n % 2 = 1)) := by
  by_cases c1 : 0 < c
  · rw [decide_eq_true c1, ZF, decide_eq_true (.inl c1)]
  · rw [decide_eq_false c1, ZD]; by_cases c2 : c = 0
    · subst c2; rw [beq_self_eq_true, ZF]; by_cases c3 : n % 2 = 1
      · rw [decide_eq_false (fun h => h c3), decide_eq_true (.inr ⟨rfl, c3⟩)]; rfl
      · rw [decide_eq_true c3, decide_eq_false (by omega)]; rfl
    · rw [beq_false_of_ne c2, ZD, decide_eq_false (by omega)]
theorem Zep {k m : Nat} {x s : Rat} (h : sz k x) (h' : sz m s) (hk : k + m ≤ 100000000) (hs : 0 < s) : Zsh x s = some (rdm x s, 0) := by
  unfold Zsh Zbd rdm; have hd := Zmk h h'; have hne : s ≠ 0 := by grind
  rw [Ze, decide_eq_false (fun h => by have := ZMh.1 h; grind), ZD, Zdm h h' (by omega) hne, Ze]; generalize x / s = q at *; have hf := Zoi hd; rw [Zym hd (by omega), Ze]; have r2 : Zyb (2 : Int) = some 2 := rfl; have r1 : Zyb (1 : Int) = some 1 := rfl; have z1 := sz_sub hd hf; have z2 := ZGh ZXi z1; have z3 := Zmk hf ZXi; rw [r2, r1]; simp only [Ze]; rw [rsub_ok hd hf (by omega), Ze, ZZj ZXi z1 (by omega)]; simp only [Ze]; rw [Z8e z2 Z7e (by omega), Ze, Zdm hf ZXi (by omega) (by grind)]; simp only [Ze]; rw [Zym z3 (by omega), Ze, ZAn z3 (Zoi z3) (by omega), Ze, ZSq]; have e1 : (0 < (q - (flr q : Rat) - mkRat 1 2).num.sign) ↔ (0 < (2 * (q - (flr q : Rat)) - 1).num.sign) := by
    rw [Zhi, Zhi, half]; constructor <;> intro h <;> grind
  have e2 : ((q - (flr q : Rat) - mkRat 1 2).num.sign = 0) ↔ ((2 * (q - (flr q : Rat)) - 1).num.sign = 0) := by
    rw [Z8m, Z8m, half]; constructor <;> intro h <;> grind
  have e3 : ifb (decide ((0 : Int) < (2 * (q - (flr q : Rat)) - 1).num.sign)) (some true) (ifb ((2 * (q - (flr q : Rat)) - 1).num.sign == (0 : Int)) (some (!(decide ((flr q).natAbs % 2 ≠ 1)))) (some false)) = some (decide (0 < (q - (flr q : Rat) - mkRat 1 2).num.sign ∨ (q - (flr q : Rat) - mkRat 1 2).num.sign = 0 ∧ (flr q).natAbs % 2 = 1)) :=
    (odd_tie _ _).trans (congrArg some (decide_eq_decide.2 (or_congr e1.symm (and_congr_left' e2.symm))))
  rw [e3, Ze, Z9l]; split
  · rename_i hc; have z4 := Zwd hf Z7e; rw [decide_eq_true hc, ZF, ZJj hf Z7e (by omega), Ze, Ze, ZZj z4 h' (by omega), Ze, Rat.intCast_add]; rfl
  · rename_i hc; rw [decide_eq_false hc, ZD, Ze, ZZj hf h' (by omega), Ze]
def Zkd (t : Lab) (x : Rat) : Nat := t.2.findIdx (fun y => decide (rdm x t.1 ≤ y))
theorem clsF_le (t : Lab) (x : Rat) : Zkd t x ≤ t.2.length := List.findIdx_le_length
structure GoodT (t : Lab) : Prop where
  pos : 0 < t.1
  szs : sz 64 t.1
  szl : szR t.2
  len : t.2.length < 16
theorem ZQm {t : Lab} (g : GoodT t) {k : Nat} {x : Rat} (h : sz k x) (hk : k ≤ 10000000) : ZHf t x = some (Zkd t x : Int) := by
  unfold ZHf; have zr := Z7l h g.szs; have hl := g.len; rw [ZXo h g.szs (by omega) g.pos, Ze]; simp only; unfold Z3i Zkd; generalize rdm x t.1 = r at *; have body1 : ∀ i, (hi : i < t.2.length) → Zmh t.2[i] r = some (decide (r ≤ t.2[i])) := fun i hi => by
    unfold Zmh; rw [Zxj (g.szl i hi) zr (by omega), Ze]; exact congrArg some (decide_eq_decide.2 sgn_ge)
  by_cases hc : t.2.findIdx (fun y => decide (r ≤ y)) < t.2.length
  · refine ZYa (y := ((t.2.findIdx (fun y => decide (r ≤ y)) : Nat) : Int)) (ZYa (y := .inr ((t.2.findIdx (fun y => decide (r ≤ y)) : Nat) : Int)) (ZYa (ZXd (r := .inl ((t.2.findIdx (fun y => decide (r ≤ y)) : Nat) : Int)) (fun k => (k : Int)) (t.2.findIdx (fun y => decide (r ≤ y))) rfl (by omega) (fun i hi => ?_) ?_) rfl) rfl) ?_
    · have := List.not_of_lt_findIdx (xs := t.2) (p := fun y => decide (r ≤ y)) hi; have hf : decide (r ≤ t.2[i]) = false := by simpa using this
      simp only; rw [decide_eq_true (by omega), ZF, Zaa (by omega), Ze, body1 i (by omega), Ze, hf, ZD, Zma (by omega) (by omega), Ze]; rfl
    · have := List.findIdx_getElem (xs := t.2) (p := fun y => decide (r ≤ y)) (w := hc); simp only; rw [decide_eq_true (by omega), ZF, Zaa hc, Ze, body1 _ hc, Ze, this, ZF]
    · rw [decide_eq_false (by omega), ZD]
  · have hlen : t.2.findIdx (fun y => decide (r ≤ y)) = t.2.length := by have := List.findIdx_le_length (xs := t.2) (p := fun y => decide (r ≤ y)); omega
    rw [hlen]; refine ZYa (y := (-1 : Int)) (ZYa (y := .inl ()) (ZYa (ZXd (r := .inr ()) (fun k => (k : Int)) t.2.length rfl (by omega) (fun i hi => ?_) ?_) rfl) rfl) ?_
    · have := List.not_of_lt_findIdx (xs := t.2) (p := fun y => decide (r ≤ y)) (i := i) (by omega); have hf : decide (r ≤ t.2[i]) = false := by simpa using this
      simp only; rw [decide_eq_true (by omega), ZF, Zaa hi, Ze, body1 i hi, Ze, hf, ZD, Zma (by omega) (by omega), Ze]; rfl
    · simp only; rw [decide_eq_false (by omega), ZD]
    · rfl
theorem Zlm {t : Lab} (g : GoodT t) {k : Nat} {x : Rat} (h : sz k x) (hk : k ≤ 10000000) : Z2f t x = some (Zkd t x : Int) := by
  unfold Z2f; have zr := Z7l h g.szs; have hl := g.len; rw [Zep h g.szs (by omega) g.pos, Ze]; simp only; unfold Zkd; generalize rdm x t.1 = r at *; by_cases hc : t.2.findIdx (fun y => decide (r ≤ y)) < t.2.length
  · refine ZYa (y := .inr ((t.2.findIdx (fun y => decide (r ≤ y)) : Nat) : Int)) (ZYa (ZXd (r := .inl ((t.2.findIdx (fun y => decide (r ≤ y)) : Nat) : Int)) (fun k => (k : Int)) (t.2.findIdx (fun y => decide (r ≤ y))) rfl (by omega) (fun i hi => ?_) ?_) rfl) rfl
    · have := List.not_of_lt_findIdx (xs := t.2) (p := fun y => decide (r ≤ y)) hi; have hf : decide (r ≤ t.2[i]) = false := by simpa using this
      rw [decide_eq_true (by omega), ZF, Zaa (by omega), Ze, Z8e zr (g.szl i (by omega)) (by omega), Ze, decide_eq_decide.2 Z4g, hf, ZD, Zma (by omega) (by omega), Ze]; rfl
    · have := List.findIdx_getElem (xs := t.2) (p := fun y => decide (r ≤ y)) (w := hc); rw [decide_eq_true (by omega), ZF, Zaa hc, Ze, Z8e zr (g.szl _ hc) (by omega), Ze, decide_eq_decide.2 Z4g, this, ZF]
  · have hlen : t.2.findIdx (fun y => decide (r ≤ y)) = t.2.length := by have := List.findIdx_le_length (xs := t.2) (p := fun y => decide (r ≤ y)); omega
    rw [hlen]; refine ZYa (y := .inl ()) (ZYa (ZXd (r := .inr ()) (fun k => (k : Int)) t.2.length rfl (by omega) (fun i hi => ?_) ?_) rfl) rfl
    · have := List.not_of_lt_findIdx (xs := t.2) (p := fun y => decide (r ≤ y)) (i := i) (by omega); have hf : decide (r ≤ t.2[i]) = false := by simpa using this
      rw [decide_eq_true (by omega), ZF, Zaa hi, Ze, Z8e zr (g.szl i hi) (by omega), Ze, decide_eq_decide.2 Z4g, hf, ZD, Zma (by omega) (by omega), Ze]; rfl
    · rw [decide_eq_false (by omega), ZD]
noncomputable def Zch (l : (List ((Int × Int) × (Int × Int)))) : Option ((List (Rat × Rat)) × (List (Rat × Rat))) :=
 bnd (bnd (Z1 (fun s : (List (Rat × Rat)) × (List (Rat × Rat)) × Int => match s with
 | (b, c, d) =>
 (ifb (decide (d < (l.length : Int)))
 (bnd (idx l d) fun a =>
 bnd (Zcc ((a.1.1, a.1.2))) fun e =>
 bnd (Zcc ((a.2.1, a.2.2))) fun f =>
 bnd (Z5a 112 (b ++ [(e, f)])) fun o =>
 bnd (Z9b ((a.1.1, a.1.2))) fun g =>
 bnd (Z9b ((a.2.1, a.2.2))) fun h =>
 bnd (Z5a 112 (c ++ [(g, h)])) fun q =>
 bnd (chk .i64 (d + ((1 : Int)))) fun i =>
 some (.inl (((b ++ [(e, f)]), (c ++ [(g, h)]), i))))
 (some (.inr ((b, c)))))) Zga ((([] : (List (Rat × Rat))), ([] : (List (Rat × Rat))), (0 : Int))))
 (fun (p : (List (Rat × Rat)) × (List (Rat × Rat))) => match p with
 | (j, k) =>
 (some ((j, k)))))
 (fun (p : (List (Rat × Rat)) × (List (Rat × Rat))) => match p with
 | (m, n) =>
 (some ((m, n))))
noncomputable def Zvg (d : (List (Rat × Rat))) : Option (Int) :=
 bnd (ifb (((d.length : Int)) == ((0 : Int)))
 (some true)
 (some (decide ((64 : Int) < (d.length : Int)))))
 (fun (e : Bool) =>
 (ifb (e)
 (some ((4 : Int)))
 (bnd (bnd (Z1 (fun s : Rat × Int => match s with
 | (b, a) =>
 (ifb (decide (a < (d.length : Int)))
 (bnd (idx d a) fun c =>
 bnd (Z7f ([c.2])) fun f =>
 ifb (f)
 (some (.inr ((.inl ((1 : Int))))))
 (bnd (Zvc b c.2) fun g =>
 bnd (chk .i64 (a + ((1 : Int)))) fun h =>
 some (.inl ((g, h)))))
 (some (.inr ((.inr b)))))) Zga (((0 : Rat), (0 : Int))))
 (fun (p : (Int) ⊕ (Rat)) => match p with
 | .inl i =>
 (some ((.inr i)))
 | .inr j =>
 (some ((.inl j)))))
 (fun (p : (Rat) ⊕ (Int)) => match p with
 | .inl k =>
 (bnd (ZDc ((1 : Int))) fun l =>
 bnd (ZAh k l) fun m =>
 ifb (!(m))
 (some ((1 : Int)))
 (some ((0 : Int))))
 | .inr n =>
 (some n)))))
noncomputable def Zeg (t : (Rat × (List Rat))) (d : (List (Rat × Rat))) : Option (Int) :=
 bnd (Z0f ((t.1, t.2))) fun a =>
 ifb (a != ((0 : Int)))
 (some a)
 (bnd (Zvg d) fun b =>
 some b)
noncomputable def Zdg (t : (Rat × (List Rat))) (x : Rat) (d : (List (Rat × Rat))) (cls : Int) : Option (Rat) :=
 bnd (bnd (Z1 (fun s : Rat × Int => match s with
 | (a, b) =>
 (ifb (decide (b < (d.length : Int)))
 (bnd (idx d b) fun c =>
 bnd (Zvc x c.1) fun e =>
 bnd (ZHf ((t.1, t.2)) e) fun f =>
 bnd (ifb (decide (f ≤ cls))
 (bnd (Zvc a c.2) fun g =>
 some g)
 (some a))
 (fun (h : Rat) =>
 (bnd (chk .i64 (b + ((1 : Int)))) fun i =>
 some (.inl ((h, i))))))
 (some (.inr a)))) Zga (((0 : Rat), (0 : Int))))
 (fun (j : Rat) =>
 (some j)))
 (fun (k : Rat) =>
 (some k))
noncomputable def ZUg (t : (Rat × (List Rat))) (x : Rat) (d : (List (Rat × Rat))) (chance : Rat) : Option (Int × Int) :=
 bnd (Zeg ((t.1, t.2)) d) fun b =>
 ifb (b != ((0 : Int)))
 (some (((0 : Int), b)))
 (bnd (bnd (ZKe ([chance])) fun c =>
 ifb (!(c))
 (some true)
 (bnd (ZDc ((1 : Int))) fun e =>
 bnd (Z7c chance e) fun f =>
 some (decide ((0 : Int) < f))))
 (fun (g : Bool) =>
 (ifb (g)
 (some (((0 : Int), (1 : Int))))
 (bnd (bnd (Z1 (fun s : Int => match s with
 | a =>
 (bnd (Zdg ((t.1, t.2)) x d a) fun h =>
 bnd (Z7c h chance) fun i =>
 ifb (decide (i < (0 : Int)))
 (bnd (chk .i64 (a + ((1 : Int)))) fun j =>
 some (.inl j))
 (some (.inr a)))) Zga ((0 : Int)))
 (fun (k : Int) =>
 (some k)))
 (fun (l : Int) =>
 (some ((l, (0 : Int)))))))))
noncomputable def ZCh (t : (Rat × (List Rat))) (x : Rat) (d : (List (Rat × Rat))) (cls : Int) : Option (Rat × Int) :=
 bnd (Zeg ((t.1, t.2)) d) fun a =>
 ifb (a != ((0 : Int)))
 (some (((0 : Rat), a)))
 (bnd (ifb (decide (cls < (0 : Int)))
 (some true)
 (some (decide ((t.2.length : Int) < cls))))
 (fun (b : Bool) =>
 (ifb (b)
 (some (((0 : Rat), (1 : Int))))
 (bnd (Zdg ((t.1, t.2)) x d cls) fun c =>
 some ((c, (0 : Int)))))))
noncomputable def ZSf (t : (Rat × (List Rat))) (x : Rat) (d : (List (Rat × Rat))) (cls : Int) : Option (Rat) :=
 bnd (ZVf ) fun c =>
 bnd (bnd (Z1 (fun s : Rat × Int => match s with
 | (b, a) =>
 (ifb (decide (a < (d.length : Int)))
 (bnd (idx d a) fun e =>
 bnd (ZJd x e.1) fun f =>
 bnd (Z2f ((t.1, t.2)) f) fun g =>
 bnd (ifb (decide (g ≤ cls))
 (bnd (idx d a) fun h =>
 bnd (ZJd b h.2) fun i =>
 some i)
 (some b))
 (fun (j : Rat) =>
 (bnd (chk .i64 (a + ((1 : Int)))) fun k =>
 some (.inl ((j, k))))))
 (some (.inr b)))) Zga ((c, (0 : Int))))
 (fun (l : Rat) =>
 (some l)))
 (fun (m : Rat) =>
 (some m))
noncomputable def ZMg (d : (List (Rat × Rat))) : Option (Int) :=
 bnd (ifb (decide ((d.length : Int) < (1 : Int)))
 (some true)
 (some (decide ((64 : Int) < (d.length : Int)))))
 (fun (c : Bool) =>
 (ifb (c)
 (some ((4 : Int)))
 (bnd (ZVf ) fun e =>
 bnd (bnd (Z1 (fun s : Rat × Int => match s with
 | (b, a) =>
 (ifb (decide (a < (d.length : Int)))
 (bnd (idx d a) fun f =>
 bnd (Zbd f.2) fun g =>
 ifb (decide (g < (0 : Int)))
 (some (.inr ((.inl ((1 : Int))))))
 (bnd (idx d a) fun h =>
 bnd (ZJd b h.2) fun i =>
 bnd (chk .i64 (a + ((1 : Int)))) fun j =>
 some (.inl ((i, j)))))
 (some (.inr ((.inr b)))))) Zga ((e, (0 : Int))))
 (fun (p : (Int) ⊕ (Rat)) => match p with
 | .inl k =>
 (some ((.inr k)))
 | .inr l =>
 (some ((.inl l)))))
 (fun (p : (Rat) ⊕ (Int)) => match p with
 | .inl m =>
 (bnd (Zlh ) fun n =>
 bnd (Zmf m n) fun o =>
 ifb (!(o))
 (some ((1 : Int)))
 (some ((0 : Int))))
 | .inr q =>
 (some q)))))
noncomputable def Z6h (step : (Int × Int)) (x : (Int × Int)) (chance : (Int × Int)) (l : ((List ((Int × Int) × (Int × Int))) × (List ((Int × Int) × (Int × Int))))) (cls : Int) : Option (Bool) :=
 bnd (bnd (Z1 (fun s : (List (Int × Int)) × Int => match s with
 | (i, j) =>
 (ifb (decide (j < (l.1.length : Int)))
 (bnd (idx l.1 j) fun d =>
 bnd (Z5a 16 (i ++ [(d.1.1, d.1.2)])) fun ah =>
 bnd (chk .i64 (j + ((1 : Int)))) fun r =>
 some (.inl (((i ++ [(d.1.1, d.1.2)]), r))))
 (some (.inr i)))) Zga ((([] : (List (Int × Int))), (0 : Int))))
 (fun (t : (List (Int × Int))) =>
 (some t)))
 (fun (k : (List (Int × Int))) =>
 (bnd (ifb (decide ((30 : Int) < (k.length : Int)))
 (some true)
 (some (decide ((80 : Int) < (l.2.length : Int)))))
 (fun (u : Bool) =>
 (ifb (u)
 (bnd (Zme ) fun v =>
 some v)
 (bnd (Zwf ((step.1, step.2)) k) fun a =>
 bnd (Zch l.2) fun c =>
 bnd (Zcc ((x.1, x.2))) fun w =>
 bnd (ZFf ((a.1.1, a.1.2)) w) fun e =>
 bnd (bnd (Zcc ((x.1, x.2))) fun y =>
 bnd (ZCh ((a.1.1, a.1.2)) y c.1 cls) fun o =>
 some ((o.1, o.2)))
 (fun (p : Rat × Int) => match p with
 | (f, g) =>
 (bnd (Zcc ((x.1, x.2))) fun z =>
 bnd (Zcc ((chance.1, chance.2))) fun A =>
 bnd (ZUg ((a.1.1, a.1.2)) z c.1 A) fun b =>
 bnd (ZJh ((a.2.1, a.2.2))) fun h =>
 ifb (h != ((0 : Int)))
 (bnd (ifb (e.2 == h)
 (ifb (g == h)
 (ifb (b.2 == h)
 (ifb (e.1 == ((0 : Int)))
 (bnd (Z5d f) fun B =>
 ifb (B)
 (ifb (b.1 == ((0 : Int)))
 (bnd (Zme ) fun C =>
 some C)
 (some false))
 (some false))
 (some false))
 (some false))
 (some false))
 (some false))
 (fun (D : Bool) =>
 (some D)))
 (bnd (ifb (e.2 != ((0 : Int)))
 (some true)
 (bnd (Z9b ((x.1, x.2))) fun E =>
 bnd (Z2f ((a.2.1, a.2.2)) E) fun F =>
 some (e.1 != F)))
 (fun (G : Bool) =>
 (ifb (G)
 (some false)
 (bnd (ZMg c.2) fun m =>
 ifb (m != ((0 : Int)))
 (bnd (ifb (g == m)
 (ifb (b.2 == m)
 (bnd (Z5d f) fun H =>
 ifb (H)
 (ifb (b.1 == ((0 : Int)))
 (bnd (Zme ) fun I =>
 some I)
 (some false))
 (some false))
 (some false))
 (some false))
 (fun (J : Bool) =>
 (some J)))
 (bnd (ifb (decide (cls < (0 : Int)))
 (some true)
 (some (decide ((k.length : Int) < cls))))
 (fun (K : Bool) =>
 (bnd (ifb (K)
 (bnd (ifb (g != ((1 : Int)))
 (some true)
 (bnd (Z5d f) fun L =>
 some (!(L))))
 (fun (M : Bool) =>
 (ifb (M)
 (some ((.inl false)))
 (some ((.inr (())))))))
 (bnd (ifb (g != ((0 : Int)))
 (some true)
 (bnd (Z9b ((x.1, x.2))) fun N =>
 bnd (ZSf ((a.2.1, a.2.2)) N c.2 cls) fun O =>
 bnd (Zng f O) fun P =>
 some (!(P))))
 (fun (Q : Bool) =>
 (ifb (Q)
 (some ((.inl false)))
 (some ((.inr (()))))))))
 (fun (p : (Bool) ⊕ (Unit)) => match p with
 | .inl R =>
 (some R)
 | .inr (()) =>
 (bnd (Z9b ((chance.1, chance.2))) fun q =>
 bnd (bnd (Zbd q) fun S =>
 ifb (decide (S ≤ (0 : Int)))
 (some true)
 (bnd (Zyb ((1 : Int))) fun T =>
 bnd (Ztd q T) fun U =>
 some (decide ((0 : Int) < U))))
 (fun (V : Bool) =>
 (ifb (V)
 (bnd (ifb (b.2 == ((1 : Int)))
 (ifb (b.1 == ((0 : Int)))
 (bnd (Zme ) fun W =>
 some W)
 (some false))
 (some false))
 (fun (X : Bool) =>
 (some X)))
 (bnd (bnd (Z1 (fun s : Int => match s with
 | n =>
 (bnd (Z9b ((x.1, x.2))) fun Y =>
 bnd (ZSf ((a.2.1, a.2.2)) Y c.2 n) fun Z =>
 bnd (Z9b ((chance.1, chance.2))) fun aa =>
 bnd (Ztd Z aa) fun ab =>
 ifb (decide (ab < (0 : Int)))
 (bnd (chk .i64 (n + ((1 : Int)))) fun ac =>
 some (.inl ac))
 (some (.inr n)))) Zga ((0 : Int)))
 (fun (ad : Int) =>
 (some ad)))
 (fun (ae : Int) =>
 (bnd (ifb (b.2 == ((0 : Int)))
 (ifb (b.1 == ae)
 (bnd (Zme ) fun af =>
 some af)
 (some false))
 (some false))
 (fun (ag : Bool) =>
 (some ag)))))))))))))))))))))))
set_option maxRecDepth 100000
def szP (l : List RR2) : Prop := ∀ i, (h : i < l.length) → sz 64 l[i].1 ∧ sz 64 l[i].2
def dst (e : RR2) (s : Rat) : Int ⊕ Rat := if e.2 < 0 then .inl 1 else .inr (s + e.2)
def Zie (s : Rat) : Int := if s = 1 then 0 else 1
def Z2b (d : List RR2) : Int := if d.length = 0 ∨ 64 < d.length then 4 else Zbb dst Zie d 0
theorem ZMm (x : Rat) : Z7f [x] = some (decide (x < 0)) := by rw [ZTp _ (by simp)]; simp
def ZBb (e : RR2) (s : Rat) : (Int ⊕ Rat) ⊕ Rat := if e.2 < 0 then .inl (.inl 1) else .inr (s + e.2)
def dout : Int ⊕ Rat → Int
  | .inl c => c
  | .inr s => Zie s
theorem ZAk : ∀ (d : List RR2) (s : Rat), dout (Zbb ZBb (fun s => .inr s) d s) = Zbb dst Zie d s
  | [], s => rfl
  | e :: d, s => by
    by_cases h : e.2 < 0
    · have h2 : ZBb e s = .inl (.inl 1) := by unfold ZBb; rw [if_pos h]
      have h3 : dst e s = .inl 1 := by unfold dst; rw [if_pos h]
      rw [Zbb, Zbb, h2, h3]; rfl
    · have h2 : ZBb e s = .inr (s + e.2) := by unfold ZBb; rw [if_neg h]
      have h3 : dst e s = .inr (s + e.2) := by unfold dst; rw [if_neg h]
      rw [Zbb, Zbb, h2, h3]; exact ZAk d _
theorem Z3q {d : List RR2} (h : szP d) : Zvg d = some (Z2b d) := by
  unfold Zvg Z2b; by_cases h0 : d.length = 0
  · rw [if_pos (.inl h0), h0]; rfl
  have e0 : ((d.length : Int) == 0) = false := by rw [Bool.eq_false_iff]; intro h; rw [beq_iff_eq] at h; omega
  rw [e0, ZD, Ze]; by_cases h1 : 64 < d.length
  · rw [if_pos (.inr h1), decide_eq_true (by omega), ZF]
  rw [if_neg (by omega), decide_eq_false (by omega), ZD, ← ZAk]; refine ZYa (y := match Zbb ZBb (fun s => .inr s) d 0 with | .inl c => (.inr c : Rat ⊕ Int) | .inr s => .inl s) (ZYa (Zqi d (fun s i => (s, (i : Int))) ZBb (fun s => (.inr s : Int ⊕ Rat)) (fun i s => sz (65 * i + 1) s) rfl Zfg (by omega) (fun i s r hi hI hf => ?_) (fun i s s' hi hI hf => ?_) (fun s hI => ?_)) ?_) ?_
  · unfold ZBb at hf; split at hf
    · rename_i hn
      cases hf
      simp only; rw [decide_eq_true (by omega), ZF, Zaa hi, Ze, ZMm, Ze, decide_eq_true hn, ZF]
    · cases hf
  · unfold ZBb at hf; split at hf
    · cases hf
    · rename_i hn
      cases hf
      have z := (h i hi).2; simp only; rw [decide_eq_true (by omega), ZF, Zaa hi, Ze, ZMm, Ze, decide_eq_false hn, ZD, Z0k hI z (by omega), Ze, Zma (by omega) (by omega), Ze]; exact ⟨rfl, (Zwd hI z).mono (by omega)⟩
  · simp only; rw [decide_eq_false (by omega), ZD]
  · cases Zbb ZBb (fun s => .inr s) d 0 <;> rfl
  · cases Zbb ZBb (fun s => .inr s) d 0 with
    | inl c => rfl
    | inr s =>
      simp only; have qs : ∀ x y : Rat, ZAh x y = some (decide (x = y)) := fun _ _ => rfl; rw [Zql, Ze, qs, Ze]; unfold dout Zie; simp only; by_cases hs : s = 1
      · subst hs; rfl
      · rw [if_neg hs, decide_eq_false (show ¬ s = ((1 : Int) : Rat) from hs)]; rfl
theorem ZRl : ∀ (d : List RR2) (s : Rat) (c : Nat) (s' : Rat), (∀ x ∈ d, sz 64 x.2) → sz c s → Zbb ZBb (fun s => (.inr s : Int ⊕ Rat)) d s = .inr s' → sz (c + 65 * d.length) s'
  | [], s, c, s', _, hs, h => by
    have h : s = s' := Sum.inr.inj h
    rw [← h]; exact hs.mono (by simp)
  | e :: d, s, c, s', hd, hs, h => by
    by_cases hn : e.2 < 0
    · have h2 : ZBb e s = .inl (.inl 1) := by unfold ZBb; rw [if_pos hn]
      rw [Zbb, h2] at h
      cases h
    · have h2 : ZBb e s = .inr (s + e.2) := by unfold ZBb; rw [if_neg hn]
      rw [Zbb, h2] at h
      have := ZRl d _ _ s' (fun x hx => hd x (List.mem_cons_of_mem _ hx)) (Zwd hs (hd e List.mem_cons_self)) h
      exact this.mono (by rw [List.length_cons]; omega)
theorem ZEo {d : List RR2} (h : szP d) : ZMg d = some (Z2b d) := by
  unfold ZMg Z2b Zbd; by_cases h0 : d.length = 0
  · rw [if_pos (.inl h0), decide_eq_true (by omega), ZF, Ze, ZF]
  rw [decide_eq_false (by omega), ZD, Ze]; by_cases h1 : 64 < d.length
  · rw [if_pos (.inr h1), decide_eq_true (by omega), ZF]
  rw [if_neg (by omega), decide_eq_false (by omega), ZD, ← ZAk, Zkl, one8_eq, Ze]; refine ZYa (y := match Zbb ZBb (fun s => .inr s) d 0 with | .inl c => (.inr c : Rat ⊕ Int) | .inr s => .inl s) (ZYa (Zqi d (fun s i => (s, (i : Int))) ZBb (fun s => (.inr s : Int ⊕ Rat)) (fun i s => sz (65 * i + 1) s) rfl Zfg (by omega) (fun i s r hi hI hf => ?_) (fun i s s' hi hI hf => ?_) (fun s hI => ?_)) ?_) ?_
  · unfold ZBb at hf; split at hf
    · rename_i hn
      cases hf
      simp only; rw [decide_eq_true (by omega), ZF, Zaa hi, Ze, Ze, decide_eq_true (Zkh.2 hn), ZF]
    · cases hf
  · unfold ZBb at hf; split at hf
    · cases hf
    · rename_i hn
      cases hf
      have z := (h i hi).2; simp only; rw [decide_eq_true (by omega), ZF, Zaa hi, Ze, Ze, decide_eq_false (fun h => hn (Zkh.1 h)), ZD, Ze, ZJj hI z (by omega), Ze, Zma (by omega) (by omega), Ze]; exact ⟨rfl, (Zwd hI z).mono (by omega)⟩
  · simp only; rw [decide_eq_false (by omega), ZD]
  · cases Zbb ZBb (fun s => .inr s) d 0 <;> rfl
  · cases hr : Zbb ZBb (fun s => .inr s) d 0 with
    | inl c => rfl
    | inr s =>
      simp only [Ze]; have zk := ZRl d 0 1 s (fun x hx => by obtain ⟨i, hi, rfl⟩ := List.getElem_of_mem hx; exact (h i hi).2) Zfg hr; rw [ZAn zk Z7e (by omega), Ze]; unfold dout Zie; simp only; by_cases hs : s = 1
      · subst hs; rfl
      · rw [if_neg hs, decide_eq_false hs]; rfl
def kst (t : Lab) (x : Rat) (cls : Int) (e : RR2) (s : Rat) : Rat ⊕ Rat := .inr (if (Zkd t (x + e.1) : Int) ≤ cls then s + e.2 else s)
def kF (t : Lab) (x : Rat) (d : List RR2) (cls : Int) : Rat := Zbb (kst t x cls) id d 0
theorem Zhm (t : Lab) (x : Rat) (cls : Int) : ∀ (d : List RR2) (s : Rat) (c : Nat), (∀ y ∈ d, sz 64 y.2) → sz c s → sz (c + 65 * d.length) (Zbb (kst t x cls) id d s)
  | [], s, c, _, hs => hs.mono (by simp)
  | e :: d, s, c, hd, hs => by
    rw [Zbb]
    show sz _ (Zbb (kst t x cls) id d (if (Zkd t (x + e.1) : Int) ≤ cls then s + e.2 else s))
    have hz : sz (c + 65) (if (Zkd t (x + e.1) : Int) ≤ cls then s + e.2 else s) := by
      split
      · exact (Zwd hs (hd e List.mem_cons_self)).mono (by omega)
      · exact hs.mono (by omega)
    have := Zhm t x cls d _ _ (fun x hx => hd x (List.mem_cons_of_mem _ hx)) hz; exact this.mono (by rw [List.length_cons]; omega)
theorem szP.mem {d : List RR2} (h : szP d) : ∀ y ∈ d, sz 64 y.2 := fun y hy => by obtain ⟨i, hi, rfl⟩ := List.getElem_of_mem hy; exact (h i hi).2
theorem kF_sz {t : Lab} {x : Rat} {d : List RR2} {cls : Int} (h : szP d) (hl : d.length ≤ 80) : sz 5300 (kF t x d cls) := (Zhm t x cls d 0 1 h.mem Zfg).mono (by omega)
theorem ZIl {t : Lab} (g : GoodT t) {x : Rat} (hx : sz 64 x) {d : List RR2} (h : szP d) (hl : d.length ≤ 80) (cls : Int) : Zdg t x d cls = some (kF t x d cls) := by
  unfold Zdg kF; refine ZYa (ZYa (Zqi d (fun s i => (s, (i : Int))) (kst t x cls) id (fun i s => sz (65 * i + 1) s) rfl Zfg (by omega) (fun i s r hi hI hf => by cases hf) (fun i s s' hi hI hf => ?_) (fun s hI => ?_)) rfl) rfl
  · cases hf
    have z := h i hi; have zs := Zwd hx z.1; have hc := ZQm g zs (by omega); simp only; rw [decide_eq_true (by omega), ZF, Zaa hi, Ze, Z0k hx z.1 (by omega), Ze, hc, Ze]; by_cases hk : (Zkd t (x + d[i].1) : Int) ≤ cls
    · rw [decide_eq_true hk, ZF, Z0k hI z.2 (by omega), Ze, Ze, Zma (by omega) (by omega), Ze, if_pos hk]; exact ⟨rfl, (Zwd hI z.2).mono (by omega)⟩
    · rw [decide_eq_false hk, ZD, Ze, Zma (by omega) (by omega), Ze, if_neg hk]; exact ⟨rfl, hI.mono (by omega)⟩
  · simp only; rw [decide_eq_false (by omega), ZD]; rfl
theorem Z6k {t : Lab} (g : GoodT t) {x : Rat} (hx : sz 64 x) {d : List RR2} (h : szP d) (hl : d.length ≤ 80) (cls : Int) : ZSf t x d cls = some (kF t x d cls) := by
  unfold ZSf kF; rw [Zkl, Ze]; refine ZYa (ZYa (Zqi d (fun s i => (s, (i : Int))) (kst t x cls) id (fun i s => sz (65 * i + 1) s) rfl Zfg (by omega) (fun i s r hi hI hf => by cases hf) (fun i s s' hi hI hf => ?_) (fun s hI => ?_)) rfl) rfl
  · cases hf
    have z := h i hi; have zs := Zwd hx z.1; have hc := Zlm g zs (by omega); simp only; rw [decide_eq_true (by omega), ZF, Zaa hi, Ze, ZJj hx z.1 (by omega), Ze, hc, Ze]; by_cases hk : (Zkd t (x + d[i].1) : Int) ≤ cls
    · rw [decide_eq_true hk, ZF, Ze, ZJj hI z.2 (by omega), Ze, Ze, Zma (by omega) (by omega), Ze, if_pos hk]; exact ⟨rfl, (Zwd hI z.2).mono (by omega)⟩
    · rw [decide_eq_false hk, ZD, Ze, Zma (by omega) (by omega), Ze, if_neg hk]; exact ⟨rfl, hI.mono (by omega)⟩
  · simp only; rw [decide_eq_false (by omega), ZD]; rfl
theorem Zjn {t : Lab} {x : Rat} {cls : Int} (hc : (t.2.length : Int) ≤ cls) : ∀ (d : List RR2) (s : Rat), Zbb dst Zie d s = 0 → Zbb (kst t x cls) id d s = 1
  | [], s, h => by
    have h : Zie s = 0 := h
    unfold Zie at h
    split at h
    · rename_i hs; exact hs
    · cases h
  | e :: d, s, h => by
    by_cases hn : e.2 < 0
    · have h2 : dst e s = .inl 1 := by unfold dst; rw [if_pos hn]
      rw [Zbb, h2] at h
      cases h
    · have h2 : dst e s = .inr (s + e.2) := by unfold dst; rw [if_neg hn]
      rw [Zbb, h2] at h
      have hk : (Zkd t (x + e.1) : Int) ≤ cls := by have := clsF_le t (x + e.1); omega
      have h3 : kst t x cls e s = .inr (s + e.2) := by unfold kst; rw [if_pos hk]
      rw [Zbb, h3]
      exact Zjn hc d _ h
theorem ZGi {d : List RR2} (h : Z2b d = 0) : d.length ≠ 0 ∧ d.length ≤ 64 ∧ Zbb dst Zie d 0 = 0 := by
  unfold Z2b at h; split at h
  · simp at h
  · exact ⟨by omega, by omega, h⟩
theorem Zdi {t : Lab} (h : Zsb t = 0) (hs : sz 64 t.1) (hl : szR t.2) : GoodT t := by
  unfold Zsb at h; split at h
  · simp at h
  split at h
  · simp at h
  exact ⟨by grind, hs, hl, by omega⟩
def ZDd (t : Lab) (x : Rat) (d : List RR2) (ch : Rat) : Nat := (List.range (t.2.length + 1)).findIdx (fun k : Nat => decide (ch ≤ kF t x d (k : Int)))
theorem ZJo {t : Lab} {x : Rat} {d : List RR2} {ch : Rat} (hd : Z2b d = 0) (hc : ch ≤ 1) : ZDd t x d ch ≤ t.2.length ∧ ch ≤ kF t x d (ZDd t x d ch : Int) ∧ ∀ k, k < ZDd t x d ch → ¬ ch ≤ kF t x d (k : Int) := by
  have hm : ZDd t x d ch < (List.range (t.2.length + 1)).length := List.findIdx_lt_length.2 ⟨t.2.length, List.mem_range.2 (by omega), decide_eq_true (by
    rw [show kF t x d (t.2.length : Int) = 1 from Zjn (Int.le_refl _) d 0 (ZGi hd).2.2]; exact hc)⟩
  have e : (List.range (t.2.length + 1))[ZDd t x d ch]'hm = ZDd t x d ch := List.getElem_range _; have h1 : decide (ch ≤ kF t x d (((List.range (t.2.length + 1))[ZDd t x d ch]'hm : Nat) : Int)) = true := List.findIdx_getElem (w := hm); rw [e] at h1; rw [List.length_range] at hm; refine ⟨by omega, of_decide_eq_true h1, fun k hk => ?_⟩; have h2 := List.not_of_lt_findIdx (xs := List.range (t.2.length + 1)) (p := fun k : Nat => decide (ch ≤ kF t x d (k : Int))) hk; simp only [List.getElem_range] at h2
  simpa using h2
theorem Zxl {t : Lab} (g : GoodT t) {x : Rat} {d : List RR2} {ch : Rat} (hd : Z2b d = 0) (hc : ch ≤ 1) {body : Int → Option (Int ⊕ Int)}
    (hb : ∀ k : Nat, k ≤ t.2.length → body (k : Int) = if kF t x d (k : Int) < ch then some (.inl ((k : Int) + 1)) else some (.inr (k : Int))) : Z1 body Zga 0 = some (ZDd t x d ch : Int) := by
  obtain ⟨h1, h2, h3⟩ := ZJo (t := t) (x := x) hd hc; have hl := g.len; refine ZXd (fun k => (k : Int)) (ZDd t x d ch) rfl (by omega) (fun k hk => ?_) ?_
  · rw [hb k (by omega), if_pos (by have := h3 k hk; grind)]; rfl
  · rw [hb _ h1, if_neg (by grind)]
theorem Z4m {t : Lab} (hs : szR t.2) {d : List RR2} (h : szP d) : Zeg t d = some (if Zsb t ≠ 0 then Zsb t else Z2b d) := by
  unfold Zeg; rw [Znl hs, Ze]; by_cases c : Zsb t = 0
  · rw [c, if_neg (by simp), show ((0 : Int) != 0) = false from rfl, ZD, Z3q h, Ze]
  · rw [if_pos c, show (Zsb t != 0) = true by simpa using c, ZF]
def kpF (t : Lab) (x : Rat) (d : List RR2) (cls : Int) : Rat × Int :=
  if Zsb t ≠ 0 then (0, Zsb t) else if Z2b d ≠ 0 then (0, Z2b d) else if cls < 0 ∨ (t.2.length : Int) < cls then (0, 1) else (kF t x d cls, 0)
theorem ZJq {t : Lab} (hs : sz 64 t.1) (hl : szR t.2) {x : Rat} (hx : sz 64 x) {d : List RR2} (h : szP d) (cls : Int) : ZCh t x d cls = some (kpF t x d cls) := by
  unfold ZCh kpF; rw [Z4m hl h, Ze]; by_cases c : Zsb t = 0
  · rw [if_neg (fun h => h c), if_neg (fun h => h c)]; by_cases c2 : Z2b d = 0
    · have g := Zdi c hs hl; have := (ZGi c2).2.1; rw [if_neg (fun h => h c2), c2, show ((0 : Int) != 0) = false from rfl, ZD]; by_cases h1 : cls < 0
      · rw [decide_eq_true h1, ZF, Ze, ZF, if_pos (.inl h1)]
      · rw [decide_eq_false h1, ZD, Ze]; by_cases h2 : (t.2.length : Int) < cls
        · rw [decide_eq_true h2, ZF, if_pos (.inr h2)]
        · rw [decide_eq_false h2, ZD, if_neg (by omega), ZIl g hx h (by omega), Ze]
    · rw [if_pos c2, show (Z2b d != 0) = true by simpa using c2, ZF]
  · rw [if_pos c, if_pos c, show (Zsb t != 0) = true by simpa using c, ZF]
def dcF (t : Lab) (x : Rat) (d : List RR2) (ch : Rat) : Int × Int :=
  if Zsb t ≠ 0 then (0, Zsb t) else if Z2b d ≠ 0 then (0, Z2b d) else if ch ≤ 0 ∨ 1 < ch then (0, 1) else ((ZDd t x d ch : Int), 0)
theorem ZFq {t : Lab} (hs : sz 64 t.1) (hl : szR t.2) {x : Rat} (hx : sz 64 x) {d : List RR2} (h : szP d) {ch : Rat} (hch : sz 64 ch) : ZUg t x d ch = some (dcF t x d ch) := by
  unfold ZUg dcF; rw [Z4m hl h, Ze]; by_cases c : Zsb t = 0
  · rw [if_neg (fun h => h c), if_neg (fun h => h c)]; by_cases c2 : Z2b d = 0
    · have g := Zdi c hs hl; have := (ZGi c2).2.1; have lk := g.len; rw [if_neg (fun h => h c2), c2, show ((0 : Int) != 0) = false from rfl, ZD, abv1, Ze, ZGl]; by_cases h1 : ch ≤ 0
      · rw [decide_eq_true h1, ZF, Ze, ZF, if_pos (.inl h1)]
      · rw [decide_eq_false h1, ZD, Zql, Ze, Zxj hch (show sz 1 ((1 : Int) : Rat) from Z7e) (by omega), Ze, Ze, decide_eq_decide.2 Ztl]; by_cases h2 : (1 : Rat) < ch
        · rw [decide_eq_true (show ((1 : Int) : Rat) < ch from h2), ZF, if_pos (.inr h2)]
        · rw [decide_eq_false (show ¬ ((1 : Int) : Rat) < ch from h2), ZD, if_neg (fun h => h.elim h1 h2)]; refine ZYa (ZYa (Zxl (x := x) (ch := ch) g c2 (by grind) (fun k hk => ?_)) rfl) rfl; simp only; rw [ZIl g hx h (by omega), Ze, Zxj (kF_sz h (by omega)) hch (by omega), Ze, decide_eq_decide.2 Zpn]; by_cases h3 : kF t x d (k : Int) < ch
          · rw [decide_eq_true h3, ZF, if_pos h3, Zma (by omega) (by omega), Ze]
          · rw [decide_eq_false h3, ZD, if_neg h3]
    · rw [if_pos c2, show (Z2b d != 0) = true by simpa using c2, ZF]
  · rw [if_pos c, if_pos c, show (Zsb t != 0) = true by simpa using c, ZF]
theorem ZAo {t : Lab} (hs : sz 64 t.1) (hl : szR t.2) {x : Rat} (hx : sz 64 x) : ZFf t x = some (if Zsb t ≠ 0 then (0, Zsb t) else ((Zkd t x : Int), 0)) := by
  unfold ZFf; rw [Znl hl, Ze]; by_cases c : Zsb t = 0
  · rw [if_neg (fun h => h c), c, show ((0 : Int) != 0) = false from rfl, ZD, ZQm (Zdi c hs hl) hx (by omega), Ze]
  · rw [if_pos c, show (Zsb t != 0) = true by simpa using c, ZF]
theorem ZDk {α : Type} {b : Nat} {l : List α} (h : l.length * b ≤ 140737488355328) : Z5a b l = some () := by unfold Z5a; rw [if_pos h]
theorem takeS {α β : Type} (f : α → β) (l : List α) {k : Nat} (h : k < l.length) : (l.take (k + 1)).map f = (l.take k).map f ++ [f l[k]] := by
  rw [List.take_succ_eq_append_getElem h, List.map_append]; rfl
theorem Zrr (l : List (Int × Int)) (hl : l.length * 56 ≤ 140737488355328) : ZJg l = some (l.map ZSa, l.map ZSa) := by
  unfold ZJg Zcc Z9b; refine ZYa (y := (l.map ZSa, l.map ZSa)) (ZYa (y := (l.map ZSa, l.map ZSa)) (ZXd (fun k => ((l.take k).map ZSa, (l.take k).map ZSa, (k : Int))) l.length rfl (by omega) (fun k hk => ?_) ?_) rfl) rfl
  · have e := takeS ZSa l hk; have hlen : ((l.take k).map ZSa).length = k := by simp; omega
    have hroom : ∀ x, Z5a 56 ((l.take k).map ZSa ++ [x]) = some () := fun x => ZDk (by rw [List.length_append, hlen, List.length_singleton]; have := Nat.mul_le_mul_right 56 (show k + 1 ≤ l.length by omega); omega); simp only; rw [decide_eq_true (by omega), ZF, Zaa hk, Ze, Ze, hroom, Ze, Ze, hroom, Ze, Zma (by omega) (by omega), Ze, e]; rfl
  · simp only; rw [decide_eq_false (by omega), ZD, List.take_length]
theorem ZKn (st : Int × Int) (l : List (Int × Int)) (hl : l.length * 56 ≤ 140737488355328) : Zwf st l = some ((ZSa st, l.map ZSa), (ZSa st, l.map ZSa)) := by
  unfold Zwf Zcc Z9b; rw [Zrr l hl, Ze, Ze, Ze]
theorem Z0q (l : List ((Int × Int) × (Int × Int))) (hl : l.length * 112 ≤ 140737488355328) : Zch l = some (Zac l, Zac l) := by
  unfold Zch Zcc Z9b; refine ZYa (y := (Zac l, Zac l)) (ZYa (y := (Zac l, Zac l)) (ZXd (fun k => (Zac (l.take k), Zac (l.take k), (k : Int))) l.length rfl (by omega) (fun k hk => ?_) ?_) rfl) rfl
  · have e : Zac (l.take (k + 1)) = Zac (l.take k) ++ [(ZSa l[k].1, ZSa l[k].2)] := takeS _ _ hk; have hlen : (Zac (l.take k)).length = k := by unfold Zac; simp; omega
    have hroom : ∀ x, Z5a 112 (Zac (l.take k) ++ [x]) = some () := fun x => ZDk (by rw [List.length_append, hlen, List.length_singleton]; have := Nat.mul_le_mul_right 112 (show k + 1 ≤ l.length by omega); omega); simp only; rw [decide_eq_true (by omega), ZF, Zaa hk, Ze, Ze, Ze, hroom, Ze, Ze, Ze, hroom, Ze, Zma (by omega) (by omega), Ze, e]; rfl
  · simp only; rw [decide_eq_false (by omega), ZD, List.take_length]
theorem ZPq {l : List ((Int × Int) × (Int × Int))} (h : ∀ x ∈ l, i64 x.1 ∧ i64 x.2) : szP (Zac l) := fun i hi => by
  have hi' : i < l.length := by
    have : (Zac l).length = l.length := List.length_map ..; omega
  have e : (Zac l)[i] = (ZSa l[i].1, ZSa l[i].2) := List.getElem_map ..; rw [e]; have := h _ (List.getElem_mem hi'); exact ⟨ZGf this.1, ZGf this.2⟩
theorem szR_map {l : List (Int × Int)} (h : ∀ x ∈ l, i64 x) : szR (l.map ZSa) := fun i hi => by
  rw [List.getElem_map]
  exact ZGf (h _ (List.getElem_mem _))
set_option maxRecDepth 100000
theorem Zkq (step x chance : Int × Int) (l : List ((Int × Int) × (Int × Int)) × List ((Int × Int) × (Int × Int))) (cls : Int) (h1 : i64 step) (h2 : i64 x) (h3 : i64 chance) (hl1 : ∀ y ∈ l.1, i64 y.1 ∧ i64 y.2) (hl2 : ∀ y ∈ l.2, i64 y.1 ∧ i64 y.2) (hlen : l.1.length * 32 ≤ 140737488351232) :
    Z6h step x chance l cls = some true := by
  unfold Z6h; rw [ZVp]; refine ZYa (y := l.1.map fun p => p.1) (ZYa (y := l.1.map fun p => p.1) (ZXd (fun k => ((l.1.take k).map fun p => p.1, (k : Int))) l.1.length rfl (by omega) (fun k hk => ?_) ?_) rfl) ?_
  · have e := takeS (fun p : (Int × Int) × (Int × Int) => p.1) l.1 hk; have hlen' : ((l.1.take k).map fun p : (Int × Int) × (Int × Int) => p.1).length = k := by simp; omega
    have hroom : ∀ x, Z5a 16 (((l.1.take k).map fun p : (Int × Int) × (Int × Int) => p.1) ++ [x]) = some () := fun x => ZDk (by rw [List.length_append, hlen', List.length_singleton]; omega); simp only; rw [decide_eq_true (by omega), ZF, Zaa hk, Ze, hroom, Ze, Zma (by omega) (by omega), Ze, e]; rfl
  · simp only; rw [decide_eq_false (by omega), ZD, List.take_length]
  have ll : (l.1.map fun p => p.1).length = l.1.length := List.length_map ..; have hL : ∀ y ∈ (l.1.map fun p => p.1), i64 y := fun y hy => by
    obtain ⟨z, hz, rfl⟩ := List.mem_map.1 hy; exact (hl1 z hz).1
  generalize (l.1.map fun p => p.1) = L at *; by_cases n1 : 30 < L.length
  · rw [decide_eq_true (by omega), ZF, Ze, ZF, Ze]
  rw [decide_eq_false (by omega), ZD]; by_cases n2 : 80 < l.2.length
  · rw [decide_eq_true (by omega), Ze, ZF, Ze]
  rw [decide_eq_false (by omega), Ze, ZD, ZKn _ _ (by omega), Ze, Z0q _ (by omega), Ze]; unfold Zcc Z9b; simp only [Ze]; have a1 : sz 64 (ZSa (step.1, step.2)) := ZGf h1; have a2 : sz 64 (ZSa (x.1, x.2)) := ZGf h2; have a3 : sz 64 (ZSa (chance.1, chance.2)) := ZGf h3; have aL : szR (L.map ZSa) := szR_map hL; have aD : szP (Zac l.2) := ZPq hl2; have lD : (Zac l.2).length = l.2.length := List.length_map ..; have lL : (L.map ZSa).length = L.length := List.length_map ..; generalize ZSa (step.1, step.2) = S at *; generalize ZSa (x.1, x.2) = X at *; generalize ZSa (chance.1, chance.2) = C at *; generalize Zac l.2 = D at *; rw [← lL]; generalize L.map ZSa = M at *; have q0 : Z5d (0 : Rat) = some true := rfl; have b0 : ((0 : Int) != 0) = false := rfl; have b1 : ((1 : Int) != 1) = false := rfl; rw [ZAo (t := (S, M)) a1 aL a2, ZJq (t := (S, M)) a1 aL a2 aD cls, ZFq (t := (S, M)) a1 aL a2 aD a3, ZYp (t := (S, M)) aL]; simp only [Ze]; unfold kpF dcF; by_cases c : Zsb (S, M) = 0
  · have g := Zdi c a1 aL; rw [c, b0, ZD]; simp only [ne_eq, not_true_eq_false, if_false]; rw [b0, ZD, Zlm g a2 (by omega), ZEo aD]; simp only [Ze, bne_self_eq_false, ZD]; by_cases c2 : Z2b D = 0
    · have hn := (ZGi c2).2.1; rw [c2, b0, ZD]; simp only [not_true_eq_false, if_false]; have hk := Z6k g a2 aD (by omega) cls; rw [hk]; simp only [Ze]; refine ZYa (y := decide (cls < 0 ∨ (M.length : Int) < cls)) ?_ ?_
      · by_cases k1 : cls < 0
        · rw [decide_eq_true k1, ZF, decide_eq_true (.inl k1)]
        · rw [decide_eq_false k1, ZD]; exact congrArg some (decide_eq_decide.2 ⟨.inr, fun h => h.resolve_left k1⟩)
      refine ZYa (y := .inr ()) ?_ ?_
      · by_cases k : cls < 0 ∨ (M.length : Int) < cls
        · rw [decide_eq_true k, ZF, if_pos k]; simp only [b1, ZD, q0, Ze, Bool.not_true]
        · rw [decide_eq_false k, ZD, if_neg k]; simp only [b0, ZD]; rw [is1_ok (kF_sz aD (by omega)) (by omega)]; simp only [Ze, Bool.not_true, ZD]
      simp only; unfold Zbd; have r1 : Zyb (1 : Int) = some 1 := rfl; rw [r1]; simp only [Ze]; rw [Z8e a3 Z7e (by omega)]; simp only [Ze]; rw [decide_eq_decide.2 (ZMh (q := C)), decide_eq_decide.2 (Ztl (x := C) (y := 1))]; refine ZYa (y := decide (C ≤ 0 ∨ 1 < C)) ?_ ?_
      · by_cases k1 : C ≤ 0
        · rw [decide_eq_true k1, ZF, decide_eq_true (.inl k1)]
        · rw [decide_eq_false k1, ZD, show decide (C ≤ 0 ∨ 1 < C) = decide (1 < C) from decide_eq_decide.2 ⟨fun h => h.resolve_left k1, .inr⟩]
      by_cases k : C ≤ 0 ∨ 1 < C
      · rw [decide_eq_true k, ZF, if_pos k]; rfl
      · rw [decide_eq_false k, ZD, if_neg k]; refine ZYa (y := (ZDd (S, M) X D C : Int)) (ZYa (Zxl (x := X) (ch := C) g c2 (by grind) (fun j hj => ?_)) rfl) ?_
        · rw [Z6k g a2 aD (by omega), Ze, Z8e (kF_sz aD (by omega)) a3 (by omega), Ze, decide_eq_decide.2 Zpn]; have := g.len; by_cases h3 : kF (S, M) X D (j : Int) < C
          · rw [decide_eq_true h3, ZF, if_pos h3, Zma (by omega) (by omega), Ze]
          · rw [decide_eq_false h3, ZD, if_neg h3]
        · simp only [beq_self_eq_true, ZF, Ze]
    · have b2 : (Z2b D != 0) = true := by simpa using c2
      rw [b2, ZF]; simp only [c2, not_false_eq_true, if_true, beq_self_eq_true, ZF, q0, Ze]
  · have b2 : (Zsb (S, M) != 0) = true := by simpa using c
    rw [b2, ZF]; simp only [ne_eq, c, not_false_eq_true, if_true, beq_self_eq_true, ZF, q0, Ze]
theorem Zll {α : Type} {A : Rep α} {v : Zd} {cs : List Value} {l : List α} (h : (Zs A).rel v cs l) {x : α} (hx : x ∈ l) : ∃ c, A.rel v c x := by
  obtain ⟨q, cap, rfl, h1, h2, h3⟩ := h; rcases h3 with rfl | ⟨b, off, c, T, fr, e, hb, hr⟩
  · cases hx
  · obtain ⟨i, hi, rfl⟩ := List.getElem_of_mem hx; exact ⟨_, ZGa hr (List.getElem?_eq_getElem hi)⟩
theorem Zkf {v : Zd} {c : List Value} {r : Int × Int} (h : Rep.rel (Zt (Za .i64) (Za .i64)) v c r) : i64 r := by
  obtain ⟨c1, c2, _, ⟨_, h1⟩, _, h2⟩ := h; exact ⟨Z5b.1 h1, Z5b.1 h2⟩
end Go.Eng
namespace Go.Eng
open Go.RowKit
theorem Zf {α : Type _} {a b : α} (h : some a = some b) : a = b := Option.some.inj h
theorem Zv (b : Bool) : b = true ∨ b = false := (Bool.eq_false_or_eq_true b)
theorem leT {a b c : Zd} (h : a.le b) (k : b.le c) : a.le c := Zd.le_trans h k
theorem leR (v : Zd) : v.le v := Zd.le_refl v
theorem Zl {P : Program} {Q : Exit → Act → World → Prop} {a : Act} {w : World} {id : Nat} {l : List Oper} (h : wpList P l.toArray Q l a w) : (Code.region id l.toArray false).wp P Q a w := wp_region_lit h
theorem Zg {P : Program} {Q : Exit → Act → World → Prop} {a : Act} {w : World} {x y : Code} (h : ∀ K : Act → World → Prop, (∀ a w, y.wp P Q a w → K a w) → x.wp P (Exit.then K Q) a w) : (Code.seq x y).wp P Q a w := wp_seq_k h
theorem Zo {α : Type} {A : Rep α} {v v' : Zd} {cs : List Value} {x : α} (hv : v.le v') (h : A.rel v cs x) : A.rel v' cs x := A.mono hv h
theorem Zka {α : Type} (A : Rep α) {v : Zd} {cs : List Value} {x : α} (h : A.rel v cs x) : cs.all ZWa = true := A.flat h
theorem Atm {v v' : Zd} {b off : Nat} {cs : List Value} (h : v.le v') (k : At v b off cs) : At v' b off cs := At.mono h k
end Go.Eng
namespace Go.Eng
open Go.Proofs Go.RowKit
theorem ZVl : Z8f Tryz.prog 291 20 1 := ⟨5, fun _ => by kernel_rfl, fun _ => by kernel_rfl⟩
theorem ZHb : Z8f Tryz.prog 51 3 2 := ⟨50, fun _ => by kernel_rfl, fun _ => by kernel_rfl⟩
theorem Zuk : Z8f Tryz.prog 95 2 1 := ⟨94, fun _ => by kernel_rfl, fun _ => by kernel_rfl⟩
theorem Zmd : ZNe Tryz.prog 211 212 .u64 .u32 := fun _ _ => by kernel_rfl
theorem Zan : ZNe Tryz.prog 211 5 .u64 .u8 := fun _ _ => by kernel_rfl
theorem Zum : ZNe Tryz.prog 212 2 .u32 .i64 := fun _ _ => by kernel_rfl
theorem ZKc : ZNe Tryz.prog 212 211 .u32 .u64 := fun _ _ => by kernel_rfl
theorem Zgi : ZNe Tryz.prog 2 211 .i64 .u64 := fun _ _ => by kernel_rfl
theorem Zfp : ZNe Tryz.prog 2 212 .i64 .u32 := fun _ _ => by kernel_rfl
theorem Zvk : ZNe Tryz.prog 3 253 .i64 .u64 := fun _ _ => by kernel_rfl
theorem k_cv5_3 : ZNe Tryz.prog 5 3 .u8 .i64 := fun _ _ => by kernel_rfl
theorem Zxn : Elem Tryz.prog 105 120 6 112 (Value.agg #[Value.bool false, Value.slice none 0 0, Value.slice none 0 0, Value.bool false, Value.slice none 0 0, Value.slice none 0 0]) := ⟨Tryz.underlying105, by kernel_rfl, rfl, by decide⟩
theorem Zvm : Elem Tryz.prog 106 205 6 112 (Value.agg #[Value.bool false, Value.slice none 0 0, Value.slice none 0 0, Value.bool false, Value.slice none 0 0, Value.slice none 0 0]) := ⟨Tryz.underlying106, by kernel_rfl, rfl, by decide⟩
theorem Zml : Elem Tryz.prog 263 9 1 16 (Value.string (Z6 [])) := ⟨Tryz.underlying263, by kernel_rfl, rfl, by decide⟩
theorem Zwg : Elem Tryz.prog 28 3 1 8 (Value.int IntKind.i64 0) := ⟨Tryz.underlying28, by kernel_rfl, rfl, by decide⟩
theorem Z1c : Elem Tryz.prog 30 211 1 8 (Value.int IntKind.u64 0) := ⟨Tryz.underlying30, by kernel_rfl, rfl, by decide⟩
theorem Znb : Elem Tryz.prog 40 212 1 4 (Value.int IntKind.u32 0) := ⟨Tryz.underlying40, by kernel_rfl, rfl, by decide⟩
theorem Zpf : Elem Tryz.prog 80 34 3 56 (Value.agg #[Value.bool false, Value.slice none 0 0, Value.slice none 0 0]) := ⟨Tryz.underlying80, by kernel_rfl, rfl, by decide⟩
theorem ZFl : Elem Tryz.prog 85 42 3 56 (Value.agg #[Value.bool false, Value.slice none 0 0, Value.slice none 0 0]) := ⟨Tryz.underlying85, by kernel_rfl, rfl, by decide⟩
theorem Z6m : Elem Tryz.prog 96 50 2 16 (Value.agg #[Value.int IntKind.i64 0, Value.int IntKind.i64 0]) := ⟨Tryz.underlying96, by kernel_rfl, rfl, by decide⟩
theorem k_en100 : ZQ Tryz.prog 100 := fun _ _ => by kernel_rfl
theorem ZSe : ZQ Tryz.prog 101 := fun _ _ => by kernel_rfl
theorem Z1g : ZQ Tryz.prog 102 := fun _ _ => by kernel_rfl
theorem Zgg : ZQ Tryz.prog 103 := fun _ _ => by kernel_rfl
theorem ZNd : ZQ Tryz.prog 104 := fun _ _ => by kernel_rfl
theorem k_en105 : ZQ Tryz.prog 105 := fun _ _ => by kernel_rfl
theorem k_en106 : ZQ Tryz.prog 106 := fun _ _ => by kernel_rfl
theorem k_en107 : ZQ Tryz.prog 107 := fun _ _ => by kernel_rfl
theorem k_en108 : ZQ Tryz.prog 108 := fun _ _ => by kernel_rfl
theorem ZQk : ZQ Tryz.prog 109 := fun _ _ => by kernel_rfl
theorem ZVd : ZQ Tryz.prog 110 := fun _ _ => by kernel_rfl
theorem Zce : ZQ Tryz.prog 111 := fun _ _ => by kernel_rfl
theorem Z0d : ZQ Tryz.prog 112 := fun _ _ => by kernel_rfl
theorem ZDn : ZQ Tryz.prog 113 := fun _ _ => by kernel_rfl
theorem ZKh : ZQ Tryz.prog 114 := fun _ _ => by kernel_rfl
theorem Znj : ZQ Tryz.prog 115 := fun _ _ => by kernel_rfl
theorem k_en119 : ZQ Tryz.prog 119 := fun _ _ => by kernel_rfl
theorem Zvl : ZQ Tryz.prog 120 := fun _ _ => by kernel_rfl
theorem ZKl : ZQ Tryz.prog 121 := fun _ _ => by kernel_rfl
theorem Zwn : ZQ Tryz.prog 122 := fun _ _ => by kernel_rfl
theorem ZGm : ZQ Tryz.prog 123 := fun _ _ => by kernel_rfl
theorem ZEj : ZQ Tryz.prog 124 := fun _ _ => by kernel_rfl
theorem k_en125 : ZQ Tryz.prog 125 := fun _ _ => by kernel_rfl
theorem ZLi : ZQ Tryz.prog 126 := fun _ _ => by kernel_rfl
theorem k_en127 : ZQ Tryz.prog 127 := fun _ _ => by kernel_rfl
theorem Zrm : ZQ Tryz.prog 137 := fun _ _ => by kernel_rfl
theorem k_en138 : ZQ Tryz.prog 138 := fun _ _ => by kernel_rfl
theorem ZTe : ZQ Tryz.prog 139 := fun _ _ => by kernel_rfl
theorem k_en140 : ZQ Tryz.prog 140 := fun _ _ => by kernel_rfl
theorem k_en141 : ZQ Tryz.prog 141 := fun _ _ => by kernel_rfl
theorem k_en142 : ZQ Tryz.prog 142 := fun _ _ => by kernel_rfl
theorem Zin : ZQ Tryz.prog 143 := fun _ _ => by kernel_rfl
theorem k_en144 : ZQ Tryz.prog 144 := fun _ _ => by kernel_rfl
theorem Zsi : ZQ Tryz.prog 145 := fun _ _ => by kernel_rfl
theorem Zli : ZQ Tryz.prog 146 := fun _ _ => by kernel_rfl
theorem Zok : ZQ Tryz.prog 147 := fun _ _ => by kernel_rfl
theorem ZRd : ZQ Tryz.prog 149 := fun _ _ => by kernel_rfl
theorem Zig : ZQ Tryz.prog 15 := fun _ _ => by kernel_rfl
theorem ZPm : ZQ Tryz.prog 150 := fun _ _ => by kernel_rfl
theorem Zhl : ZQ Tryz.prog 151 := fun _ _ => by kernel_rfl
theorem Z1m : ZQ Tryz.prog 152 := fun _ _ => by kernel_rfl
theorem k_en153 : ZQ Tryz.prog 153 := fun _ _ => by kernel_rfl
theorem k_en154 : ZQ Tryz.prog 154 := fun _ _ => by kernel_rfl
theorem Zbj : ZQ Tryz.prog 155 := fun _ _ => by kernel_rfl
theorem Zqe : ZQ Tryz.prog 156 := fun _ _ => by kernel_rfl
theorem k_en157 : ZQ Tryz.prog 157 := fun _ _ => by kernel_rfl
theorem Zdk : ZQ Tryz.prog 158 := fun _ _ => by kernel_rfl
theorem k_en159 : ZQ Tryz.prog 159 := fun _ _ => by kernel_rfl
theorem k_en160 : ZQ Tryz.prog 160 := fun _ _ => by kernel_rfl
theorem k_en161 : ZQ Tryz.prog 161 := fun _ _ => by kernel_rfl
theorem ZUm : ZQ Tryz.prog 162 := fun _ _ => by kernel_rfl
theorem ZBn : ZQ Tryz.prog 167 := fun _ _ => by kernel_rfl
theorem k_en168 : ZQ Tryz.prog 168 := fun _ _ => by kernel_rfl
theorem k_en169 : ZQ Tryz.prog 169 := fun _ _ => by kernel_rfl
theorem k_en17 : ZQ Tryz.prog 17 := fun _ _ => by kernel_rfl
theorem k_en170 : ZQ Tryz.prog 170 := fun _ _ => by kernel_rfl
theorem k_en171 : ZQ Tryz.prog 171 := fun _ _ => by kernel_rfl
theorem k_en172 : ZQ Tryz.prog 172 := fun _ _ => by kernel_rfl
theorem k_en173 : ZQ Tryz.prog 173 := fun _ _ => by kernel_rfl
theorem Zwl : ZQ Tryz.prog 174 := fun _ _ => by kernel_rfl
theorem k_en175 : ZQ Tryz.prog 175 := fun _ _ => by kernel_rfl
theorem Zmn : ZQ Tryz.prog 176 := fun _ _ => by kernel_rfl
theorem Z7h : ZQ Tryz.prog 177 := fun _ _ => by kernel_rfl
theorem k_en178 : ZQ Tryz.prog 178 := fun _ _ => by kernel_rfl
theorem k_en179 : ZQ Tryz.prog 179 := fun _ _ => by kernel_rfl
theorem k_en181 : ZQ Tryz.prog 181 := fun _ _ => by kernel_rfl
theorem ZAm : ZQ Tryz.prog 182 := fun _ _ => by kernel_rfl
theorem k_en183 : ZQ Tryz.prog 183 := fun _ _ => by kernel_rfl
theorem k_en184 : ZQ Tryz.prog 184 := fun _ _ => by kernel_rfl
theorem k_en185 : ZQ Tryz.prog 185 := fun _ _ => by kernel_rfl
theorem k_en19 : ZQ Tryz.prog 19 := fun _ _ => by kernel_rfl
theorem Z7m : ZQ Tryz.prog 190 := fun _ _ => by kernel_rfl
theorem k_en196 : ZQ Tryz.prog 196 := fun _ _ => by kernel_rfl
theorem k_en197 : ZQ Tryz.prog 197 := fun _ _ => by kernel_rfl
theorem k_en198 : ZQ Tryz.prog 198 := fun _ _ => by kernel_rfl
theorem ZCe : ZQ Tryz.prog 20 := fun _ _ => by kernel_rfl
theorem ZLe : ZQ Tryz.prog 21 := fun _ _ => by kernel_rfl
theorem k_en25 : ZQ Tryz.prog 25 := fun _ _ => by kernel_rfl
theorem k_en26 : ZQ Tryz.prog 26 := fun _ _ => by kernel_rfl
theorem Zcd : ZQ Tryz.prog 28 := fun _ _ => by kernel_rfl
theorem ZBf : ZQ Tryz.prog 29 := fun _ _ => by kernel_rfl
theorem Zif : ZQ Tryz.prog 30 := fun _ _ => by kernel_rfl
theorem ZBe : ZQ Tryz.prog 31 := fun _ _ => by kernel_rfl
theorem Zii : ZQ Tryz.prog 32 := fun _ _ => by kernel_rfl
theorem Znd : ZQ Tryz.prog 35 := fun _ _ => by kernel_rfl
theorem ZYf : ZQ Tryz.prog 37 := fun _ _ => by kernel_rfl
theorem ZNh : ZQ Tryz.prog 38 := fun _ _ => by kernel_rfl
theorem k_en39 : ZQ Tryz.prog 39 := fun _ _ => by kernel_rfl
theorem Z5f : ZQ Tryz.prog 40 := fun _ _ => by kernel_rfl
theorem ZOg : ZQ Tryz.prog 41 := fun _ _ => by kernel_rfl
theorem ZQl : ZQ Tryz.prog 52 := fun _ _ => by kernel_rfl
theorem k_en53 : ZQ Tryz.prog 53 := fun _ _ => by kernel_rfl
theorem ZDm : ZQ Tryz.prog 54 := fun _ _ => by kernel_rfl
theorem Zak : ZQ Tryz.prog 55 := fun _ _ => by kernel_rfl
theorem k_en56 : ZQ Tryz.prog 56 := fun _ _ => by kernel_rfl
theorem k_en57 : ZQ Tryz.prog 57 := fun _ _ => by kernel_rfl
theorem Ztm : ZQ Tryz.prog 58 := fun _ _ => by kernel_rfl
theorem k_en59 : ZQ Tryz.prog 59 := fun _ _ => by kernel_rfl
theorem Zvn : ZQ Tryz.prog 60 := fun _ _ => by kernel_rfl
theorem ZHc : ZQ Tryz.prog 61 := fun _ _ => by kernel_rfl
theorem ZGg : ZQ Tryz.prog 62 := fun _ _ => by kernel_rfl
theorem ZVj : ZQ Tryz.prog 64 := fun _ _ => by kernel_rfl
theorem ZWf : ZQ Tryz.prog 80 := fun _ _ => by kernel_rfl
theorem k_en81 : ZQ Tryz.prog 81 := fun _ _ => by kernel_rfl
theorem Zln : ZQ Tryz.prog 82 := fun _ _ => by kernel_rfl
theorem Zid : ZQ Tryz.prog 84 := fun _ _ => by kernel_rfl
theorem Zfe : ZQ Tryz.prog 85 := fun _ _ => by kernel_rfl
theorem ZUk : ZQ Tryz.prog 86 := fun _ _ => by kernel_rfl
theorem ZDf : ZQ Tryz.prog 87 := fun _ _ => by kernel_rfl
theorem ZVi : ZQ Tryz.prog 88 := fun _ _ => by kernel_rfl
theorem k_en89 : ZQ Tryz.prog 89 := fun _ _ => by kernel_rfl
theorem k_en90 : ZQ Tryz.prog 90 := fun _ _ => by kernel_rfl
theorem Zdn : ZQ Tryz.prog 91 := fun _ _ => by kernel_rfl
theorem ZZg : ZQ Tryz.prog 93 := fun _ _ => by kernel_rfl
theorem Zhj : ZQ Tryz.prog 94 := fun _ _ => by kernel_rfl
theorem ZHl : ZQ Tryz.prog 95 := fun _ _ => by kernel_rfl
theorem k_en96 : ZQ Tryz.prog 96 := fun _ _ => by kernel_rfl
theorem k_en97 : ZQ Tryz.prog 97 := fun _ _ => by kernel_rfl
theorem k_en98 : ZQ Tryz.prog 98 := fun _ _ => by kernel_rfl
theorem Zqh : ZQ Tryz.prog 99 := fun _ _ => by kernel_rfl
theorem ZPg : EqB Tryz.prog 4 := fun _ _ _ => by kernel_rfl
theorem Zbh : ZIf Tryz.prog 148 add64Entry := ⟨_, Tryz.func148, by kernel_rfl, by kernel_rfl, by kernel_rfl, by kernel_rfl⟩
theorem Z9m : ZIf Tryz.prog 180 Zhk := ⟨_, Tryz.func180, by kernel_rfl, by kernel_rfl, by kernel_rfl, by kernel_rfl⟩
theorem Zxm : Zzb Tryz.prog 100 0 0 := fun _ _ _ => by kernel_rfl
theorem ZPe : Zzb Tryz.prog 100 1 3 := fun _ _ _ => by kernel_rfl
theorem ZYm : Zzb Tryz.prog 102 0 0 := fun _ _ _ => by kernel_rfl
theorem Zde : Zzb Tryz.prog 102 1 3 := fun _ _ _ => by kernel_rfl
theorem ZKo : Zzb Tryz.prog 120 0 0 := fun _ _ _ => by kernel_rfl
theorem Zek : Zzb Tryz.prog 120 1 3 := fun _ _ _ => by kernel_rfl
theorem Zhq : Zzb Tryz.prog 205 0 0 := fun _ _ _ => by kernel_rfl
theorem ZNk : Zzb Tryz.prog 205 1 3 := fun _ _ _ => by kernel_rfl
theorem Z4a : Zzb Tryz.prog 32 0 0 := fun _ _ _ => by kernel_rfl
theorem Z8a : Zzb Tryz.prog 32 1 1 := fun _ _ _ => by kernel_rfl
theorem Z0a : Zzb Tryz.prog 34 0 0 := fun _ _ _ => by kernel_rfl
theorem ZAb : Zzb Tryz.prog 34 1 2 := fun _ _ _ => by kernel_rfl
theorem ZIa : Zzb Tryz.prog 42 0 0 := fun _ _ _ => by kernel_rfl
theorem Z3b : Zzb Tryz.prog 42 1 1 := fun _ _ _ => by kernel_rfl
theorem ZKk : Zzb Tryz.prog 42 2 2 := fun _ _ _ => by kernel_rfl
theorem Z0h : Zzb Tryz.prog 50 0 0 := fun _ _ _ => by kernel_rfl
theorem Z7i : Zzb Tryz.prog 50 1 1 := fun _ _ _ => by kernel_rfl
theorem ZIi : Zzb Tryz.prog 53 0 0 := fun _ _ _ => by kernel_rfl
theorem ZDi : Zzb Tryz.prog 53 1 3 := fun _ _ _ => by kernel_rfl
theorem Z4q : Zzb Tryz.prog 53 2 6 := fun _ _ _ => by kernel_rfl
theorem Zzk : Zzb Tryz.prog 98 0 0 := fun _ _ _ => by kernel_rfl
theorem Zsj : Zzb Tryz.prog 98 1 2 := fun _ _ _ => by kernel_rfl
theorem Z4 : Tryz.prog.follows .mixedOrders = true := by kernel_rfl
theorem ZIc : NeB Tryz.prog 4 := fun _ _ _ => by kernel_rfl
theorem Z4e : Zqc Tryz.prog 105 120 6 := ⟨fun _ => by kernel_rfl, fun _ => by kernel_rfl⟩
theorem Z8d : Zqc Tryz.prog 106 205 6 := ⟨fun _ => by kernel_rfl, fun _ => by kernel_rfl⟩
theorem Zqb : Zqc Tryz.prog 22 28 1 := ⟨fun _ => by kernel_rfl, fun _ => by kernel_rfl⟩
theorem ZYk : Zqc Tryz.prog 263 9 1 := ⟨fun _ => by kernel_rfl, fun _ => by kernel_rfl⟩
theorem Zkc : Zqc Tryz.prog 28 3 1 := ⟨fun _ => by kernel_rfl, fun _ => by kernel_rfl⟩
theorem ZT : Zqc Tryz.prog 30 211 1 := ⟨fun _ => by kernel_rfl, fun _ => by kernel_rfl⟩
theorem Zia : Zqc Tryz.prog 40 212 1 := ⟨fun _ => by kernel_rfl, fun _ => by kernel_rfl⟩
theorem ZRc : Zqc Tryz.prog 80 34 3 := ⟨fun _ => by kernel_rfl, fun _ => by kernel_rfl⟩
theorem Zve : Zqc Tryz.prog 85 42 3 := ⟨fun _ => by kernel_rfl, fun _ => by kernel_rfl⟩
theorem Ztg : Zqc Tryz.prog 94 98 4 := ⟨fun _ => by kernel_rfl, fun _ => by kernel_rfl⟩
theorem Zog : Zqc Tryz.prog 96 50 2 := ⟨fun _ => by kernel_rfl, fun _ => by kernel_rfl⟩
theorem Zib : Sized Tryz.prog 100 4 true := ⟨fun _ => by kernel_rfl, fun _ => by kernel_rfl⟩
theorem Z6c : Sized Tryz.prog 102 4 true := ⟨fun _ => by kernel_rfl, fun _ => by kernel_rfl⟩
theorem ZYh : Sized Tryz.prog 120 6 true := ⟨fun _ => by kernel_rfl, fun _ => by kernel_rfl⟩
theorem ZDe : Sized Tryz.prog 2 1 false := ⟨fun _ => by kernel_rfl, fun _ => by kernel_rfl⟩
theorem Zza : Sized Tryz.prog 211 1 false := ⟨fun _ => by kernel_rfl, fun _ => by kernel_rfl⟩
theorem Zmb : Sized Tryz.prog 212 1 false := ⟨fun _ => by kernel_rfl, fun _ => by kernel_rfl⟩
theorem ZAe : Sized Tryz.prog 22 1 false := ⟨fun _ => by kernel_rfl, fun _ => by kernel_rfl⟩
theorem Zlj : Sized Tryz.prog 28 1 false := ⟨fun _ => by kernel_rfl, fun _ => by kernel_rfl⟩
theorem Zgd : Sized Tryz.prog 3 1 false := ⟨fun _ => by kernel_rfl, fun _ => by kernel_rfl⟩
theorem Zta : Sized Tryz.prog 30 1 false := ⟨fun _ => by kernel_rfl, fun _ => by kernel_rfl⟩
theorem ZKa : Sized Tryz.prog 32 2 true := ⟨fun _ => by kernel_rfl, fun _ => by kernel_rfl⟩
theorem Zz : Sized Tryz.prog 34 3 true := ⟨fun _ => by kernel_rfl, fun _ => by kernel_rfl⟩
theorem Zfa : Sized Tryz.prog 4 1 false := ⟨fun _ => by kernel_rfl, fun _ => by kernel_rfl⟩
theorem ZEb : Sized Tryz.prog 40 1 false := ⟨fun _ => by kernel_rfl, fun _ => by kernel_rfl⟩
theorem ZL : Sized Tryz.prog 42 3 true := ⟨fun _ => by kernel_rfl, fun _ => by kernel_rfl⟩
theorem k_sz5 : Sized Tryz.prog 5 1 false := ⟨fun _ => by kernel_rfl, fun _ => by kernel_rfl⟩
theorem Zva : Sized Tryz.prog 50 2 true := ⟨fun _ => by kernel_rfl, fun _ => by kernel_rfl⟩
theorem Z3c : Sized Tryz.prog 53 9 true := ⟨fun _ => by kernel_rfl, fun _ => by kernel_rfl⟩
theorem Zxk : Sized Tryz.prog 55 9 true := ⟨fun _ => by kernel_rfl, fun _ => by kernel_rfl⟩
theorem Zwe : Sized Tryz.prog 80 1 false := ⟨fun _ => by kernel_rfl, fun _ => by kernel_rfl⟩
theorem Zbe : Sized Tryz.prog 85 1 false := ⟨fun _ => by kernel_rfl, fun _ => by kernel_rfl⟩
theorem k_sz9 : Sized Tryz.prog 9 1 false := ⟨fun _ => by kernel_rfl, fun _ => by kernel_rfl⟩
theorem Zqk : Sized Tryz.prog 94 1 false := ⟨fun _ => by kernel_rfl, fun _ => by kernel_rfl⟩
theorem ZFi : Sized Tryz.prog 98 4 true := ⟨fun _ => by kernel_rfl, fun _ => by kernel_rfl⟩
theorem Zwk : ∀ w, (zeroValue 100).run Tryz.prog w = .ok (Value.agg #[Value.bool false, Value.slice none 0 0, Value.slice none 0 0, Value.slice none 0 0]) w := fun _ => by kernel_rfl
theorem Zck : ∀ w, (zeroValue 102).run Tryz.prog w = .ok (Value.agg #[Value.bool false, Value.slice none 0 0, Value.slice none 0 0, Value.slice none 0 0]) w := fun _ => by kernel_rfl
theorem Zon : ∀ w, (zeroValue 120).run Tryz.prog w = .ok (Value.agg #[Value.bool false, Value.slice none 0 0, Value.slice none 0 0, Value.bool false, Value.slice none 0 0, Value.slice none 0 0]) w := fun _ => by kernel_rfl
theorem k_zv270 : ∀ w, (zeroValue 270).run Tryz.prog w = .ok (Value.agg #[Value.pointer none, Value.slice none 0 0]) w := fun _ => by kernel_rfl
theorem k_zv291 : ∀ w, (zeroValue 291).run Tryz.prog w = .ok (Value.agg #[Value.int IntKind.u8 0, Value.int IntKind.u8 0, Value.int IntKind.u8 0, Value.int IntKind.u8 0, Value.int IntKind.u8 0, Value.int IntKind.u8 0, Value.int IntKind.u8 0, Value.int IntKind.u8 0, Value.int IntKind.u8 0, Value.int IntKind.u8 0, Value.int IntKind.u8 0, Value.int IntKind.u8 0, Value.int IntKind.u8 0, Value.int IntKind.u8 0, Value.int IntKind.u8 0, Value.int IntKind.u8 0, Value.int IntKind.u8 0, Value.int IntKind.u8 0, Value.int IntKind.u8 0, Value.int IntKind.u8 0]) w := fun _ => by kernel_rfl
theorem Zyd : ∀ w, (zeroValue 32).run Tryz.prog w = .ok (Value.agg #[Value.bool false, Value.slice none 0 0]) w := fun _ => by kernel_rfl
theorem ZEa : ∀ w, (zeroValue 34).run Tryz.prog w = .ok (Value.agg #[Value.bool false, Value.slice none 0 0, Value.slice none 0 0]) w := fun _ => by kernel_rfl
theorem Z7a : ∀ w, (zeroValue 42).run Tryz.prog w = .ok (Value.agg #[Value.bool false, Value.slice none 0 0, Value.slice none 0 0]) w := fun _ => by kernel_rfl
theorem k_zv50 : ∀ w, (zeroValue 50).run Tryz.prog w = .ok (Value.agg #[Value.int IntKind.i64 0, Value.int IntKind.i64 0]) w := fun _ => by kernel_rfl
theorem Z1l : ∀ w, (zeroValue 53).run Tryz.prog w = .ok (Value.agg #[Value.bool false, Value.slice none 0 0, Value.slice none 0 0, Value.bool false, Value.slice none 0 0, Value.slice none 0 0, Value.bool false, Value.slice none 0 0, Value.slice none 0 0]) w := fun _ => by kernel_rfl
theorem Zzm : ∀ w, (zeroValue 55).run Tryz.prog w = .ok (Value.agg #[Value.bool false, Value.slice none 0 0, Value.slice none 0 0, Value.bool false, Value.slice none 0 0, Value.slice none 0 0, Value.bool false, Value.slice none 0 0, Value.slice none 0 0]) w := fun _ => by kernel_rfl
theorem ZEm : ∀ w, (zeroValue 98).run Tryz.prog w = .ok (Value.agg #[Value.int IntKind.i64 0, Value.int IntKind.i64 0, Value.int IntKind.i64 0, Value.int IntKind.i64 0]) w := fun _ => by kernel_rfl
theorem cut_w {e : World} {d : Zd} (hv : VIn d e) {E : List Value} {a : (List Int)} (F : Rep.rel (Zs (Za .u64)) d E a) {z : (List Int)} (H : Z1i a = some z) : Ret Tryz.prog 149 #[(Zs (Za .u64)).val E] e d (fun y v' => ∃ G, y = (Zs (Za .u64)).val G ∧ (Zs (Za .u64)).rel v' G z) := by
  obtain ⟨M, N, O, rfl⟩ := Zsa F; refine ZS (K := 21) (args := [.slice M (N) O]) hv Tryz.func149 rfl rfl zl fun f S => ?_; unfold Z1i at H; refine sr ?_; have S := S.nilLoc 211 1; refine ov S rfl (Zla S (y := .slice (mkA none) 0 0) rfl) fun f S => oe (Zg fun _ P => ?_); obtain ⟨Q, R, T⟩ := Zb H; refine ZO (fun f w => ∃ (B : (List Int)) (j : Option Addr) (k : Nat) (l : Nat) (m : Zd), B = Q ∧ Zd.le d m ∧ St 21 e d [(0, .slice j (k) l)] [] m f w ∧ Rep.rel (Zs (Za .u64)) m [.slice j (k) l] B) (fun _ U => ?_) ?_
  · have H := R; refine wp_block ?_; obtain ⟨am, V, W⟩ := Zb H; have S := S.reorder (ℓ' := []) [] rfl (by decide); refine Zpa V (fun X f w => ∃ (n : (List Int)) (o : Option Addr) (q : Nat) (s : Nat) (g : Zd), n = X ∧ Zd.le d g ∧ St 21 e d [(0, .slice o (q) s)] [] g f w ∧ Rep.rel (Zs (Za .u64)) g [.slice o (q) s] n) ⟨_, _, _, _, _, rfl, (leR _), (S.fr' rfl), F⟩ ?_; rintro _ f w st ⟨n, o, q, s, g, hq, I, S, c⟩ H an Y Z; subst hq; refine Zg fun _ aa => Zg fun _ ab => ?_; obtain ⟨ac, ad, ae⟩ := Zb H; refine ZO (fun f w => ∃ (u : Bool) (C : Zd), u = ac ∧ Zd.le g C ∧ St 21 e d [(0, .slice o (q) s), (14, .bool (u))] [] C f w) (fun _ J => ?_) ?_
    · have H := ad; rcases Zv (decide ((0 : Int) < (n.length : Int))) with h | h
      · have H := Zw H h; obtain ⟨ao, af, H⟩ := Zb H; obtain ⟨ap, D, H⟩ := Zb H; refine Zl (mv S rfl fun f S => ov S rfl (ZJ S (Zy c) rfl rfl ZT) fun f S => ov S rfl (Zi S rfl rfl Zxa) fun f S => ?_); have S := S.bool (t := 5) rfl h; refine mv S rfl fun f S => opy S rfl rfl rfl rfl (Zq S rfl) fun f S => opy S rfl rfl rfl rfl (Zq S rfl) fun f S => opy S rfl rfl rfl rfl (ZJ S (Zy c) rfl rfl ZT) fun f S => opy S rfl rfl rfl rfl (Zi S rfl rfl (ZHa af)) fun f S => ?_; obtain ⟨_, aq, ar, au, rfl, ag, ah⟩ := Zqa c (Zm D).2.1; obtain ⟨rfl, av⟩ := ah; refine opy S rfl rfl rfl rfl (ZU S rfl rfl ZT (Zm D).1 (ltI (Zy c) (Zm D).2.2.1)) fun f S => opy S rfl rfl rfl rfl (Zba S rfl Zza (S.view ag)) fun f S => opy S rfl rfl rfl rfl (Zi S rfl rfl ZW) fun f S => ov S rfl (ZB S (b := true) rfl rfl) fun f S => Zk ?_; obtain rfl := Zf H; refine Zc (J _ _ ⟨_, _, rfl, (leR _), (S.fr' rfl)⟩)
      have H := Zu H h; refine Zl (mv S rfl fun f S => ov S rfl (ZJ S (Zy c) rfl rfl ZT) fun f S => ov S rfl (Zi S rfl rfl Zxa) fun f S => ?_); have S := S.bool (t := 5) rfl h; refine mv S rfl fun f S => opn S rfl rfl rfl rfl fun f S => opn S rfl rfl rfl rfl fun f S => opn S rfl rfl rfl rfl fun f S => opn S rfl rfl rfl rfl fun f S => opn S rfl rfl rfl rfl fun f S => opn S rfl rfl rfl rfl fun f S => opn S rfl rfl rfl rfl fun f S => ov S rfl (ZB S (b := false) rfl rfl) fun f S => Zk ?_; obtain rfl := Zf H; refine Zc (J _ _ ⟨_, _, rfl, (leR _), (S.fr' rfl)⟩)
    rintro f w ⟨u, C, hq, v, S⟩; subst hq; have H := ae; refine Zc (ab _ _ ?_); rcases Zv (u) with i | i
    · have H := Zw H i; refine ZH S rfl i (wp_skip (Zc (aa _ _ (wp_block ?_)))); obtain ⟨ai, aj, H⟩ := Zb H; obtain ⟨aw, x, H⟩ := Zb H; refine Zl (mv S rfl fun f S => mv S rfl fun f S => ?_); have c := Zo v c; refine ov S rfl (ZJ S (Zy c) rfl rfl ZT) fun f S => ov S rfl (Zi S rfl rfl (ZHa aj)) fun f S => ?_; obtain ⟨ax, ay, ak, L⟩ := ZEi S (A := (Za .u64)) (p := (0 : Int)) (r := ai) ZT c (ZFb x).1 (ZFb x).2.1 (ZFb x).2.2.1; rw [← (ZFb x).2.2.2.1] at L; refine ov S rfl (ak rfl (.inl ⟨rfl, rfl⟩) (.inr ⟨_, _, rfl, rfl⟩)) fun f S => mw S rfl fun f S => Zk (Zoa ?_); obtain rfl := Zf H; refine Y _ rfl _ _ ⟨_, _, _, _, _, rfl, (leT I v), (S.fr' rfl), L⟩
    have H := Zu H i; refine ZG S rfl i (wp_exit (ZR ?_)); obtain rfl := Zf H; have hq := Z _ rfl; subst hq; have H := W; refine ZR (Zna ?_); obtain rfl := Zf H; have c := Zo v c; refine Zc (U _ _ ⟨_, _, _, _, _, rfl, (leT (leT (leR _) I) v), (S.fr' rfl), c⟩)
  rintro f w ⟨B, j, k, l, m, hq, az, S, al⟩; subst hq; have H := T; refine Zc (P _ _ (sr (mv S rfl fun f S => mw S rfl fun f S => oe (wp_ret ?_)))); obtain rfl := Zf H; refine ZA S (ZK rfl (ZE S rfl)) ⟨[.slice j (k) l], rfl, al⟩
theorem ZLd {d : World} {b : Zd} (hv : VIn b d) {e : List Value} {a : (List Int)} (c : Rep.rel (Zs (Za .u64)) b e a) {z : Nat} (hm : ZCb a = some z) :
    Ret Tryz.prog 149 #[(Zs (Za .u64)).val e] d b (fun y v' => ∃ f, y = ZI.val f ∧ ZI.rel v' f z) :=
  by cases hm; exact cut_w hv c (cut_eq (ZXk c).1 (ZXk c).2)
theorem word_w {b : World} {a : Zd} (hv : VIn a b) {c : List Value} {n : Int} (h : Rep.rel (Za .u64) a c n) {z : Nat} (H : ZSh n = some z) : Ret Tryz.prog 139 #[(Za .u64).val c] b a (fun y v' => ∃ d, y = ZI.val d ∧ ZI.rel v' d z) := by
  obtain ⟨rfl, j⟩ := h; refine ZS (K := 6) (args := [.int .u64 (n)]) hv Tryz.func139 rfl rfl zl fun f S => ?_; unfold ZSh at H; refine sr (mw S rfl fun f S => oe (Zg fun _ k => ?_)); obtain ⟨u, m, H⟩ := Zb H; refine Zl (mv S rfl fun f S => ?_); obtain ⟨e, w, o, S⟩ := ZRa S (n := 1) (cs := [.int .u64 (n)]) (vals := [(0, .int .u64 (n))]) (sz := 1) rfl (by decide) (Zjb Z1c (x := .int .u64 (n)) (cs := [.int .u64 (n)]) rfl rfl (by decide)); have p : Rep.rels (Za .u64) a [.int .u64 (n)] [n] := (ZPa (Zr j) ZCa); refine Zra wn rfl zl (o rfl) S fun f S => ?_; obtain ⟨v, B, S, q⟩ := S.pubSlice (i := 0) (A := (Za .u64)) (l := [n]) (ℓ' := []) rfl rfl rfl p rfl; refine opc S rfl (Zn S [.slice (mkA (some e)) (1) 1] ZRd rfl rfl) (ZLd S.vin (show Rep.rel (Zs (Za .u64)) _ [.slice (mkA (some e)) (1) 1] ([n]) from q) m) ?_; rintro _ C f w D ⟨E, rfl, g⟩ S; obtain ⟨r, s, t, rfl⟩ := Z9 g; refine mw S rfl fun f S => Zk (Zc (k _ _ (wp_ret ?_))); obtain rfl := Zf H; refine ZA S (ZK rfl (ZE S rfl)) ⟨[.slice r s t], rfl, g⟩
theorem ZVe {b : World} {a : Zd} (hv : VIn a b) {c : List Value} {n : Int} (e : Rep.rel (Za .u64) a c n) {z : Nat} (hm : Zfc n = some z) :
    Ret Tryz.prog 139 #[(Za .u64).val c] b a (fun y v' => ∃ d, y = ZI.val d ∧ ZI.rel v' d z) :=
  word_w hv e (ZGq hm)
theorem of_w {k : World} {j : Zd} (hv : VIn j k) {l : List Value} {n : Int} (q : Rep.rel (Za .i64) j l n) {z : Int} (H : of_m n = some z) : Ret Tryz.prog 88 #[(Za .i64).val l] k j (fun y v' => ∃ m, y = Zea.val m ∧ Zea.rel v' m z) := by
  obtain ⟨rfl, G⟩ := q; refine ZS (K := 14) (args := [.int .i64 (n)]) hv Tryz.func88 rfl rfl zl fun f S => ?_; unfold of_m at H; refine sr (Z2 S wn rfl zl (cs := [.bool false, .slice none 0 0]) (ZV Zyd) fun I f w S => oe (Zg fun _ r => sr (mv S rfl fun f S => ov S rfl (Zi S rfl rfl Z7) fun f S => oe ?_))); rcases Zv (decide (n < (0 : Int))) with a | a
  · have H := Zw H a; refine ZH S rfl a (Zg fun _ t => ?_); obtain ⟨J, u, H⟩ := Zb H; refine Zl (mv S rfl fun f S => ov S rfl (ZJa S rfl (Zgi _)) fun f S => ov S rfl (ZRm S rfl) fun f S => opc S rfl (Zn S [.int .u64 (IntKind.u64.wrap (-(IntKind.u64.wrap n)))] ZTe rfl rfl) (ZVe S.vin (show Rep.rel (Za .u64) _ [.int .u64 (IntKind.u64.wrap (-(IntKind.u64.wrap n)))] (IntKind.u64.wrap (-(IntKind.u64.wrap n))) from (Zr (Zya _ _))) u) ?_); rintro _ L f w M ⟨N, rfl, o⟩ S; obtain ⟨b, c, d, rfl⟩ := Z9 o; refine ov S rfl (ZOa S [(0, .bool (true)), (1, .slice b c d)] rfl (z := .agg #[.bool (true), .slice b c d]) (by kernel_rfl)) fun f S => ?_; obtain ⟨w, v, S⟩ := sbp S [.bool (true), .slice b c d] ZKa 0 0 rfl; refine ZZ wn rfl (v rfl rfl) (Zk (Zc (t _ _ (wp_ret (ZN ?_))))); obtain ⟨O, x, H⟩ := Zb H; have A := Zpj (s := true) o x; obtain rfl := Zf H; refine ZA S (ZK rfl (ZQc S rfl ZKa rfl (S.box (i := 0) rfl 0 [.bool (true), .slice b c d] rfl))) ⟨[.bool (true), .slice b c d], rfl, A⟩
  have H := Zu H a; refine ZG S rfl a (wp_skip (Zc (r _ _ (Zg fun _ B => ?_)))); obtain ⟨P, C, H⟩ := Zb H; refine Zl (mv S rfl fun f S => ov S rfl (ZJa S rfl (Zgi _)) fun f S => opc S rfl (Zn S [.int .u64 (IntKind.u64.wrap n)] ZTe rfl rfl) (ZVe S.vin (show Rep.rel (Za .u64) _ [.int .u64 (IntKind.u64.wrap n)] (IntKind.u64.wrap n) from (Zr (Zya _ _))) C) ?_); rintro _ Q f w R ⟨T, rfl, p⟩ S; obtain ⟨e, g, h, rfl⟩ := Z9 p; refine ov S rfl (ZOa S [(0, .bool (false)), (1, .slice e g h)] rfl (z := .agg #[.bool (false), .slice e g h]) (by kernel_rfl)) fun f S => ?_; obtain ⟨w, D, S⟩ := sbp S [.bool (false), .slice e g h] ZKa 0 0 rfl; refine ZZ wn rfl (D rfl rfl) (Zk (Zc (B _ _ (wp_ret ?_)))); obtain ⟨U, E, H⟩ := Zb H; have F := Zpj (s := false) p E; obtain rfl := Zf H; refine ZA S (ZK rfl (ZQc S rfl ZKa rfl (S.box (i := 0) rfl 0 [.bool (false), .slice e g h] rfl))) ⟨[.bool (false), .slice e g h], rfl, F⟩
theorem of_c {b : World} {a : Zd} (hv : VIn a b) {c : List Value} {n : Int} (d : Rep.rel (Za .i64) a c n) {z : Int} (hm : ofF n = some z) :
    Ret Tryz.prog 88 #[(Za .i64).val c] b a (fun y v' => ∃ e, y = Zea.val e ∧ Zea.rel v' e z) :=
  of_w hv d (ofF_eq d.2 hm)
theorem qint_w {g : World} {e : Zd} (hv : VIn e g) {h : List Value} {n : Int} (k : Rep.rel (Za .i64) e h n) {z : Rat} (H : Z4i n = some z) : Ret Tryz.prog 20 #[(Za .i64).val h] g e (fun y v' => ∃ i, y = Zh.val i ∧ Zh.rel v' i z) := by
  obtain ⟨rfl, l⟩ := k; refine ZS (K := 6) (args := [.int .i64 (n)]) hv Tryz.func20 rfl rfl zl fun f S => ?_; unfold Z4i at H; refine sr (Z2 S wn rfl zl (cs := [.bool false, .slice none 0 0, .slice none 0 0]) (ZV ZEa) fun s f w S => oe (Zg fun _ m => ?_)); obtain ⟨t, o, H⟩ := Zb H; refine Zl (mv S rfl fun f S => opc S rfl (Zn S [.int .i64 (n)] ZVi rfl rfl) (of_c S.vin (show Rep.rel (Za .i64) _ [.int .i64 (n)] n from (Zr l)) o) ?_); rintro _ u f w v ⟨x, rfl, j⟩ S; obtain ⟨a, b, c, d, rfl⟩ := ZZa j; refine ov S rfl (ZOa S [(0, .agg #[.bool a, .slice b c d])] rfl (z := .agg #[.bool a, .slice b c d, .slice none 0 0]) (by kernel_rfl)) fun f S => ?_; obtain ⟨w, p, S⟩ := sbp S [.bool a, .slice b c d, .slice none 0 0] Zz 0 0 rfl; refine ZZ wn rfl (p rfl rfl) (Zk (Zc (m _ _ (wp_ret ?_)))); obtain ⟨A, q, H⟩ := Zb H; have r := ZSi j (ZCf _) q; obtain rfl := Zf H; refine ZA S (ZK rfl (Zua S rfl Zz 0 rfl rfl)) ⟨[.bool a, .slice b c d, .slice none 0 0], rfl, r⟩
theorem ZYe {b : World} {a : Zd} (hv : VIn a b) {c : List Value} {n : Int} (e : Rep.rel (Za .i64) a c n) {z : Rat} (hm : ZBd n = some z) :
    Ret Tryz.prog 20 #[(Za .i64).val c] b a (fun y v' => ∃ d, y = Zh.val d ∧ Zh.rel v' d z) :=
  qint_w hv e (Z9q hm)
theorem len64_w {b : World} {a : Zd} (hv : VIn a b) {q : List Value} {x : Int} (J : Rep.rel (Za .u64) a q x) {z : Int} (H : ZTg x = some z) : Ret Tryz.prog 196 #[(Za .u64).val q] b a (fun y v' => ∃ r, y = (Za .i64).val r ∧ (Za .i64).rel v' r z) := by
  obtain ⟨rfl, s⟩ := J; refine ZS (K := 25) (args := [.int .u64 (x)]) hv Tryz.func196 rfl rfl zl fun f S => ?_; unfold ZTg at H; refine sr (mw S rfl fun f S => oe (Zg fun _ L => sr (mv S rfl fun f S => ov S rfl (Zi S rfl rfl Zkb) fun f S => oe ?_))); obtain ⟨M, N, O⟩ := Zb H; refine ZO (fun f w => ∃ (c : Int) (i : Int) (j : Zd), (c, i) = M ∧ Zd.le a j ∧ St 25 b a [(0, .int .u64 (c)), (2, .int .i64 (i))] [] j f w ∧ inR .u64 c ∧ inR .i64 i) (fun _ t => ?_) ?_
  · have H := N; rcases Zv (decide ((4294967296 : Int) ≤ x)) with d | d
    · have H := Zw H d; refine ZH S rfl d (Zg fun _ P => ?_); obtain ⟨ag, u, H⟩ := Zb H; refine Zl (mv S rfl fun f S => ov S rfl (Zi S rfl rfl (ZGb u)) fun f S => mw S rfl fun f S => Zk (Zc (P _ _ (Zl (mw S rfl fun f S => Zk ?_))))); obtain rfl := Zf H; refine Zc (t _ _ ⟨_, _, _, rfl, (leR _), (S.fr' rfl), (ZMd s u), (by decide)⟩)
    have H := Zu H d; refine ZG S rfl d (wp_skip ?_); obtain rfl := Zf H; refine Zc (t _ _ ⟨_, _, _, rfl, (leR _), (S.fr' rfl), s, (by decide)⟩)
  rintro f w ⟨c, i, j, hq, ah, S, v, Q⟩; subst hq; have H := O; refine Zc (L _ _ (Zg fun _ R => sr (mv S rfl fun f S => ov S rfl (Zi S rfl rfl Zkb) fun f S => oe ?_))); obtain ⟨T, U, V⟩ := Zb H; refine ZO (fun f w => ∃ (e : Int) (k : Int) (m : Zd), (e, k) = T ∧ Zd.le j m ∧ St 25 b a [(0, .int .u64 (e)), (2, .int .i64 (k))] [] m f w ∧ inR .u64 e ∧ inR .i64 k) (fun _ A => ?_) ?_
  · have H := U; rcases Zv (decide ((65536 : Int) ≤ c)) with g | g
    · have H := Zw H g; refine ZH S rfl g (Zg fun _ W => ?_); obtain ⟨ai, B, H⟩ := Zb H; refine Zl (mv S rfl fun f S => ov S rfl (Zi S rfl rfl (ZGb B)) fun f S => mw S rfl fun f S => Zk (Zc (W _ _ ?_))); obtain ⟨aj, C, H⟩ := Zb H; refine Zl (mv S rfl fun f S => ov S rfl (Zi S rfl rfl (Zha C)) fun f S => mw S rfl fun f S => Zk ?_); obtain rfl := Zf H; refine Zc (A _ _ ⟨_, _, _, rfl, (leR _), (S.fr' rfl), (ZMd v B), (Zda C).2⟩)
    have H := Zu H g; refine ZG S rfl g (wp_skip ?_); obtain rfl := Zf H; refine Zc (A _ _ ⟨_, _, _, rfl, (leR _), (S.fr' rfl), v, Q⟩)
  rintro f w ⟨e, k, m, hq, ak, S, D, X⟩; subst hq; have H := V; refine Zc (R _ _ (Zg fun _ Y => sr (mv S rfl fun f S => ov S rfl (Zi S rfl rfl Zkb) fun f S => oe ?_))); obtain ⟨Z, aa, ab⟩ := Zb H; refine ZO (fun f w => ∃ (n : Int) (o : Int) (p : Zd), (n, o) = Z ∧ Zd.le m p ∧ St 25 b a [(0, .int .u64 (n)), (2, .int .i64 (o))] [] p f w ∧ inR .u64 n ∧ inR .i64 o) (fun _ E => ?_) ?_
  · have H := aa; rcases Zv (decide ((256 : Int) ≤ e)) with h | h
    · have H := Zw H h; refine ZH S rfl h (Zg fun _ ac => ?_); obtain ⟨al, F, H⟩ := Zb H; refine Zl (mv S rfl fun f S => ov S rfl (Zi S rfl rfl (ZGb F)) fun f S => mw S rfl fun f S => Zk (Zc (ac _ _ ?_))); obtain ⟨am, G, H⟩ := Zb H; refine Zl (mv S rfl fun f S => ov S rfl (Zi S rfl rfl (Zha G)) fun f S => mw S rfl fun f S => Zk ?_); obtain rfl := Zf H; refine Zc (E _ _ ⟨_, _, _, rfl, (leR _), (S.fr' rfl), (ZMd D F), (Zda G).2⟩)
    have H := Zu H h; refine ZG S rfl h (wp_skip ?_); obtain rfl := Zf H; refine Zc (E _ _ ⟨_, _, _, rfl, (leR _), (S.fr' rfl), D, X⟩)
  rintro f w ⟨n, o, p, hq, an, S, ao, ap⟩; subst hq; have H := ab; refine Zc (Y _ _ (Zg fun _ ad => ?_)); obtain ⟨aq, ae, H⟩ := Zb H; obtain ⟨af, I, H⟩ := Zb H; refine Zl (mv S rfl fun f S => mv S rfl fun f S => ov S rfl (ZJa S rfl (Zan _)) fun f S => ov S rfl (Zcr S (l := ([0, 1, 2, 2, 3, 3, 3, 3, 4, 4, 4, 4, 4, 4, 4, 4, 5, 5, 5, 5, 5, 5, 5, 5, 5, 5, 5, 5, 5, 5, 5, 5, 6, 6, 6, 6, 6, 6, 6, 6, 6, 6, 6, 6, 6, 6, 6, 6, 6, 6, 6, 6, 6, 6, 6, 6, 6, 6, 6, 6, 6, 6, 6, 6, 7, 7, 7, 7, 7, 7, 7, 7, 7, 7, 7, 7, 7, 7, 7, 7, 7, 7, 7, 7, 7, 7, 7, 7, 7, 7, 7, 7, 7, 7, 7, 7, 7, 7, 7, 7, 7, 7, 7, 7, 7, 7, 7, 7, 7, 7, 7, 7, 7, 7, 7, 7, 7, 7, 7, 7, 7, 7, 7, 7, 7, 7, 7, 7, 8, 8, 8, 8, 8, 8, 8, 8, 8, 8, 8, 8, 8, 8, 8, 8, 8, 8, 8, 8, 8, 8, 8, 8, 8, 8, 8, 8, 8, 8, 8, 8, 8, 8, 8, 8, 8, 8, 8, 8, 8, 8, 8, 8, 8, 8, 8, 8, 8, 8, 8, 8, 8, 8, 8, 8, 8, 8, 8, 8, 8, 8, 8, 8, 8, 8, 8, 8, 8, 8, 8, 8, 8, 8, 8, 8, 8, 8, 8, 8, 8, 8, 8, 8, 8, 8, 8, 8, 8, 8, 8, 8, 8, 8, 8, 8, 8, 8, 8, 8, 8, 8, 8, 8, 8, 8, 8, 8, 8, 8, 8, 8, 8, 8, 8, 8, 8, 8, 8, 8, 8, 8, 8, 8, 8, 8, 8, 8] : List UInt8)) (by kernel_rfl) rfl Tryz.underlying9 ae) fun f S => ov S rfl (ZJa S rfl (k_cv5_3 _)) fun f S => ov S rfl (Zi S rfl rfl (Zha I)) fun f S => mw S rfl fun f S => Zk (Zc (ad _ _ (wp_ret ?_)))); obtain rfl := Zf H; refine ZA S (ZK rfl (ZE S rfl)) ⟨[.int .i64 (af)], rfl, (Zr (Zda I).2)⟩
theorem len64_c {b : World} {a : Zd} (hv : VIn a b) {c : List Value} {x : Int} (e : Rep.rel (Za .u64) a c x) {z : Int} (hm : Zyh x = some z) :
    Ret Tryz.prog 196 #[(Za .u64).val c] b a (fun y v' => ∃ d, y = (Za .i64).val d ∧ (Za .i64).rel v' d z) :=
  len64_w hv e (Zqp hm)
theorem lz64_w {b : World} {a : Zd} (hv : VIn a b) {c : List Value} {x : Int} (g : Rep.rel (Za .u64) a c x) {z : Int} (H : ZVh x = some z) : Ret Tryz.prog 176 #[(Za .u64).val c] b a (fun y v' => ∃ d, y = (Za .i64).val d ∧ (Za .i64).rel v' d z) := by
  obtain ⟨rfl, h⟩ := g; refine ZS (K := 6) (args := [.int .u64 (x)]) hv Tryz.func176 rfl rfl zl fun f S => ?_; unfold ZVh at H; refine sr (mw S rfl fun f S => oe (Zg fun _ i => ?_)); obtain ⟨m, j, H⟩ := Zb H; obtain ⟨k, e, H⟩ := Zb H; refine Zl (mv S rfl fun f S => opc S rfl (Zn S [.int .u64 (x)] k_en196 rfl rfl) (len64_c S.vin (show Rep.rel (Za .u64) _ [.int .u64 (x)] x from (Zr h)) j) ?_); rintro _ n f w o ⟨p, rfl, l⟩ S; obtain ⟨rfl, q⟩ := l; refine ov S rfl (Zi S rfl rfl (ZHa e)) fun f S => mw S rfl fun f S => Zk (Zc (i _ _ (wp_ret ?_))); obtain rfl := Zf H; refine ZA S (ZK rfl (ZE S rfl)) ⟨[.int .i64 (k)], rfl, (Zr (Zda e).2)⟩
theorem ZIm {b : World} {a : Zd} (hv : VIn a b) {c : List Value} {x : Int} (e : Rep.rel (Za .u64) a c x) {z : Int} (hm : Zke x = some z) :
    Ret Tryz.prog 176 #[(Za .u64).val c] b a (fun y v' => ∃ d, y = (Za .i64).val d ∧ (Za .i64).rel v' d z) :=
  lz64_w hv e (ZOq hm)
theorem div64_w {e : World} {c : Zd} (hv : VIn c e) {X : List Value} {hi : Int} (p0 : Rep.rel (Za .u64) c X hi) {Y : List Value} {lo : Int} (p1 : Rep.rel (Za .u64) c Y lo) {Z : List Value} {y : Int} (p2 : Rep.rel (Za .u64) c Z y) {z : Int × Int} (H : Zah hi lo y = some z) : Ret Tryz.prog 190 #[(Za .u64).val X, (Za .u64).val Y, (Za .u64).val Z] e c (fun y v' => ∃ r0 M, y = .tuple #[(Za .u64).val r0, (Za .u64).val M] ∧ (Za .u64).rel v' r0 z.1 ∧ (Za .u64).rel v' M z.2) := by
  obtain ⟨rfl, M⟩ := p0; obtain ⟨rfl, r2⟩ := p1; obtain ⟨rfl, r3⟩ := p2; refine ZS (K := 135) (args := [.int .u64 (hi), .int .u64 (lo), .int .u64 (y)]) hv Tryz.func190 rfl rfl zl fun f S => ?_; unfold Zah at H; refine sr (mw S rfl fun f S => mw S rfl fun f S => oe (Zg fun _ an => sr (mv S rfl fun f S => ov S rfl (Zi S rfl rfl ZW) fun f S => oe ?_))); rcases Zv (y == ((0 : Int))) with q | q
  · have H := Zw H q; refine ZH S rfl q ?_
    cases H
  have H := Zu H q; refine ZG S rfl q (wp_skip (Zc (an _ _ (Zg fun _ ao => sr (mv S rfl fun f S => mv S rfl fun f S => ov S rfl (Zi S rfl rfl Zyc) fun f S => oe ?_))))); rcases Zv (decide (y ≤ hi)) with r | r
  · have H := Zw H r; refine ZH S rfl r ?_
    cases H
  have H := Zu H r; refine ZG S rfl r (wp_skip (Zc (ao _ _ (Zg fun _ ap => sr (mv S rfl fun f S => ov S rfl (Zi S rfl rfl ZW) fun f S => oe ?_))))); rcases Zv (hi == ((0 : Int))) with s | s
  · have H := Zw H s; refine ZH S rfl s (Zg fun _ aq => ?_); obtain ⟨ar, aa, H⟩ := Zb H; obtain ⟨au, N, H⟩ := Zb H; refine Z3 (fl := #[true, true, true, true, true, true, false, false]) Z4 (by kernel_rfl) S ?_; intro ops O F w S; refine rfa O F 0 rfl rfl S (Zq S rfl) fun f S => rfa O F 1 rfl rfl S (Zq S rfl) fun f S => rfa O F 2 rfl rfl S (Zi S rfl rfl (Z7b aa)) fun f S => rfa O F 3 rfl rfl S (Zq S rfl) fun f S => rfa O F 4 rfl rfl S (Zq S rfl) fun f S => rfa O F 5 rfl rfl S (Zi S rfl rfl (ZBc N)) fun f S => go1 O F 6 (nva [0, 1, 2] [3, 4, 5] O rfl rfl S (Zla S rfl) fun f S => ⟨(py S rfl rfl (Zq S rfl) (py S rfl rfl (Zq S rfl) (py S rfl rfl (Zi S rfl rfl (ZBc N)) Zp))), go1 O F 7 (nva [0, 1, 2, 3, 4, 5, 6] [] O rfl rfl S (Zla S rfl) fun f S => ⟨Zp, ZY O F (Zc (aq _ _ ?_))⟩)⟩); refine wp_ret (ZN ?_); obtain rfl := Zf H; refine ZA S (ZBa rfl (ZE S rfl) (ZE S rfl)) ⟨[.int .u64 (ar)], [.int .u64 (au)], rfl, (Zr (Zef aa)), (Zr (Zsk r2 N))⟩
  have H := Zu H s; refine ZG S rfl s (wp_skip (Zc (ap _ _ (Zg fun _ av => ?_)))); obtain ⟨h, aw, H⟩ := Zb H; refine Zl (mv S rfl fun f S => opc S rfl (Zn S [.int .u64 (y)] Zmn rfl rfl) (ZIm S.vin (show Rep.rel (Za .u64) _ [.int .u64 (y)] y from (Zr r3)) aw) ?_); rintro _ ab f w bd ⟨be, rfl, ax⟩ S; obtain ⟨rfl, bf⟩ := ax; refine ov S rfl (ZJa S rfl (Zvk _)) fun f S => mw S rfl fun f S => Zk (Zc (av _ _ (Zg fun _ ay => ?_))); obtain ⟨a, az, H⟩ := Zb H; refine Zl (mv S rfl fun f S => mv S rfl fun f S => ov S rfl (Zi S rfl rfl (Zle az)) fun f S => mw S rfl fun f S => Zk (Zc (ay _ _ (Zg fun _ aA => ?_)))); obtain ⟨g, aB, H⟩ := Zb H; refine Zl (mv S rfl fun f S => ov S rfl (Zi S rfl rfl (ZGb aB)) fun f S => mw S rfl fun f S => Zk (Zc (aA _ _ (sr (mv S rfl fun f S => ov S rfl (Zi S rfl rfl ZNf) fun f S => mw S rfl fun f S => oe (Zg fun _ aC => ?_)))))); obtain ⟨i, aD, H⟩ := Zb H; obtain ⟨j, aE, H⟩ := Zb H; refine Zl (mv S rfl fun f S => mv S rfl fun f S => ov S rfl (Zi S rfl rfl (Zle aD)) fun f S => mv S rfl fun f S => mv S rfl fun f S => ov S rfl (Zi S rfl rfl ZOd) fun f S => ov S rfl (Zi S rfl rfl (ZGb aE)) fun f S => ov S rfl (Zi S rfl rfl Zaf) fun f S => mw S rfl fun f S => Zk ?_); have S := S.fr' (σ' := [(1, .int .u64 (lo)), (2, .int .u64 (a)), (8, .int .u64 (IntKind.u64.wrap h)), (9, .int .u64 (g)), (10, .int .u64 (ZTa .u64 a ((4294967295 : Int)))), (11, .int .u64 (orI .u64 i j))]) rfl
  refine Zc (aC _ _ (Zg fun _ aF => ?_)); obtain ⟨k, aG, H⟩ := Zb H; refine Zl (mv S rfl fun f S => mv S rfl fun f S => ov S rfl (Zi S rfl rfl (Zle aG)) fun f S => mw S rfl fun f S => Zk (Zc (aF _ _ (Zg fun _ aH => ?_)))); obtain ⟨l, aI, H⟩ := Zb H; refine Zl (mv S rfl fun f S => ov S rfl (Zi S rfl rfl (ZGb aI)) fun f S => mw S rfl fun f S => Zk (Zc (aH _ _ (sr (mv S rfl fun f S => ov S rfl (Zi S rfl rfl ZNf) fun f S => mw S rfl fun f S => oe (Zg fun _ aJ => ?_)))))); obtain ⟨bg, ac, H⟩ := Zb H; refine Zl (mv S rfl fun f S => mv S rfl fun f S => ov S rfl (Zi S rfl rfl (Z7b ac)) fun f S => mw S rfl fun f S => Zk (Zc (aJ _ _ (sr (mv S rfl fun f S => mv S rfl fun f S => mv S rfl fun f S => ov S rfl (Zi S rfl rfl Zlc) fun f S => ov S rfl (Zi S rfl rfl ZOd) fun f S => mw S rfl fun f S => ?_))))); refine oe (Zg fun _ aK => ?_); obtain ⟨aL, aM, aN⟩ := Zb H; refine ZO (fun f w => ∃ (d : Int) (u : Zd), d = aL ∧ Zd.le ab u ∧ St 135 e c [(2, .int .u64 (a)), (8, .int .u64 (IntKind.u64.wrap h)), (9, .int .u64 (g)), (10, .int .u64 (ZTa .u64 a ((4294967295 : Int)))), (11, .int .u64 (orI .u64 i j)), (13, .int .u64 (l)), (14, .int .u64 (ZTa .u64 k ((4294967295 : Int)))), (15, .int .u64 (d))] [] u f w ∧ inR .u64 d) (fun _ ad => ?_) ?_
  · have H := aM; refine wp_block ?_; obtain ⟨bh, aO, ae⟩ := Zb H; refine Zpa aO (fun aP f w => ∃ (m : Int) (n : Int) (G : Zd), (m, n) = aP ∧ Zd.le ab G ∧ St 135 e c [(2, .int .u64 (a)), (8, .int .u64 (IntKind.u64.wrap h)), (9, .int .u64 (g)), (10, .int .u64 (ZTa .u64 a ((4294967295 : Int)))), (11, .int .u64 (orI .u64 i j)), (13, .int .u64 (l)), (14, .int .u64 (ZTa .u64 k ((4294967295 : Int)))), (15, .int .u64 (m)), (16, .int .u64 (n))] [] G f w ∧ inR .u64 m ∧ inR .u64 n) ⟨_, _, _, rfl, (leR _), (S.fr' rfl), (Zef ac), (Zya _ _)⟩ ?_; rintro _ f w st ⟨m, n, G, hq, P, S, aQ, bi⟩ H bj aR af; subst hq; refine Zg fun _ aS => Zg fun _ aT => ?_; obtain ⟨aU, aV, aW⟩ := Zb H; refine ZO (fun f w => ∃ (I : Bool) (Q : Zd), I = aU ∧ Zd.le G Q ∧ St 135 e c [(2, .int .u64 (a)), (8, .int .u64 (IntKind.u64.wrap h)), (9, .int .u64 (g)), (10, .int .u64 (ZTa .u64 a ((4294967295 : Int)))), (11, .int .u64 (orI .u64 i j)), (13, .int .u64 (l)), (14, .int .u64 (ZTa .u64 k ((4294967295 : Int)))), (15, .int .u64 (m)), (16, .int .u64 (n)), (78, .bool (I))] [] Q f w) (fun _ ag => ?_) ?_
    · have H := aV; rcases Zv (decide ((4294967296 : Int) ≤ m)) with v | v
      · have H := Zw H v; refine Zl (mv S rfl fun f S => ov S rfl (Zi S rfl rfl Zkb) fun f S => ?_); have S := S.bool (t := 68) rfl v; refine mv S rfl fun f S => opn S rfl rfl rfl rfl fun f S => opn S rfl rfl rfl rfl fun f S => opn S rfl rfl rfl rfl fun f S => opn S rfl rfl rfl rfl fun f S => opn S rfl rfl rfl rfl fun f S => opn S rfl rfl rfl rfl fun f S => opn S rfl rfl rfl rfl fun f S => opn S rfl rfl rfl rfl fun f S => ov S rfl (ZB S (b := true) rfl rfl) fun f S => Zk ?_; obtain rfl := Zf H; refine Zc (ag _ _ ⟨_, _, rfl, (leR _), (S.fr' rfl)⟩)
      have H := Zu H v; refine Zl (mv S rfl fun f S => ov S rfl (Zi S rfl rfl Zkb) fun f S => ?_); have S := S.bool (t := 68) rfl v; refine mv S rfl fun f S => opy S rfl rfl rfl rfl (Zq S rfl) fun f S => opy S rfl rfl rfl rfl (Zq S rfl) fun f S => opy S rfl rfl rfl rfl (Zi S rfl rfl Zlc) fun f S => opy S rfl rfl rfl rfl (Zq S rfl) fun f S => opy S rfl rfl rfl rfl (Zi S rfl rfl Zlc) fun f S => opy S rfl rfl rfl rfl (Zq S rfl) fun f S => opy S rfl rfl rfl rfl (Zi S rfl rfl ZVb) fun f S => opy S rfl rfl rfl rfl (Zi S rfl rfl Zxa) fun f S => ov S rfl (ZB S (b := false) rfl rfl) fun f S => Zk ?_; obtain rfl := Zf H; refine Zc (ag _ _ ⟨_, _, rfl, (leR _), (S.fr' rfl)⟩)
    rintro f w ⟨I, Q, hq, R, S⟩; subst hq; have H := aW; refine Zc (aT _ _ ?_); rcases Zv (I) with x | x
    · have H := Zw H x; refine ZH S rfl x (wp_skip (Zc (aS _ _ (wp_block (sr (mv S rfl fun f S => ov S rfl (Zi S rfl rfl ZOd) fun f S => mw S rfl fun f S => oe (sr (mv S rfl fun f S => mv S rfl fun f S => ov S rfl (Zi S rfl rfl ZVb) fun f S => mw S rfl fun f S => ?_)))))))); refine oe (sr (mv S rfl fun f S => ov S rfl (Zi S rfl rfl Zkb) fun f S => oe ?_)); rcases Zv (decide ((4294967296 : Int) ≤ IntKind.u64.wrap (n + g))) with A | A
      · have H := Zw H A; refine ZH S rfl A (wp_exit (Z1h rfl ?_)); obtain rfl := Zf H; have hq := af _ rfl; subst hq; have H := ae; refine ZR (Zna ?_); obtain rfl := Zf H; refine Zc (ad _ _ ⟨_, _, rfl, (leT (leT (leR _) P) R), (S.fr' rfl), (Zya _ _)⟩)
      have H := Zu H A; refine ZG S rfl A (wp_skip (Zoa ?_)); obtain rfl := Zf H; refine aR _ rfl _ _ ⟨_, _, _, rfl, (leT P R), (S.fr' rfl), (Zya _ _), (Zya _ _)⟩
    have H := Zu H x; refine ZG S rfl x (wp_exit (ZR ?_)); obtain rfl := Zf H; have hq := af _ rfl; subst hq; have H := ae; refine ZR (Zna ?_); obtain rfl := Zf H; refine Zc (ad _ _ ⟨_, _, rfl, (leT (leT (leR _) P) R), (S.fr' rfl), aQ⟩)
  rintro f w ⟨d, u, hq, bk, S, bm⟩; subst hq; have H := aN; refine Zc (aK _ _ (sr (mv S rfl fun f S => ov S rfl (Zi S rfl rfl Zlc) fun f S => mv S rfl fun f S => ov S rfl (Zi S rfl rfl ZVb) fun f S => mv S rfl fun f S => mv S rfl fun f S => ov S rfl (Zi S rfl rfl Zlc) fun f S => ov S rfl (Zi S rfl rfl ZOd) fun f S => mw S rfl fun f S => oe (Zg fun _ aX => ?_)))); obtain ⟨bn, ah, H⟩ := Zb H; refine Zl (mv S rfl fun f S => mv S rfl fun f S => ov S rfl (Zi S rfl rfl (Z7b ah)) fun f S => mw S rfl fun f S => Zk (Zc (aX _ _ (sr (mv S rfl fun f S => mv S rfl fun f S => mv S rfl fun f S => ov S rfl (Zi S rfl rfl Zlc) fun f S => ov S rfl (Zi S rfl rfl ZOd) fun f S => mw S rfl fun f S => ?_))))); refine oe (Zg fun _ aY => ?_); obtain ⟨aZ, a0, a1⟩ := Zb H; refine ZO (fun f w => ∃ (B : Int) (T : Zd), B = aZ ∧ Zd.le u T ∧ St 135 e c [(2, .int .u64 (a)), (8, .int .u64 (IntKind.u64.wrap h)), (14, .int .u64 (ZTa .u64 k ((4294967295 : Int)))), (15, .int .u64 (d)), (17, .int .u64 (IntKind.u64.wrap ((IntKind.u64.wrap ((IntKind.u64.wrap ((orI .u64 i j) * ((4294967296 : Int)))) + l)) - (IntKind.u64.wrap (d * a))))), (18, .int .u64 (B))] [] T f w ∧ inR .u64 B) (fun _ ai => ?_) ?_
  · have H := a0; refine wp_block ?_; obtain ⟨bo, a2, aj⟩ := Zb H; refine Zpa a2 (fun a3 f w => ∃ (o : Int) (p : Int) (J : Zd), (o, p) = a3 ∧ Zd.le u J ∧ St 135 e c [(2, .int .u64 (a)), (8, .int .u64 (IntKind.u64.wrap h)), (9, .int .u64 (g)), (10, .int .u64 (ZTa .u64 a ((4294967295 : Int)))), (14, .int .u64 (ZTa .u64 k ((4294967295 : Int)))), (15, .int .u64 (d)), (16, .int .u64 (o)), (17, .int .u64 (IntKind.u64.wrap ((IntKind.u64.wrap ((IntKind.u64.wrap ((orI .u64 i j) * ((4294967296 : Int)))) + l)) - (IntKind.u64.wrap (d * a))))), (18, .int .u64 (p))] [] J f w ∧ inR .u64 o ∧ inR .u64 p) ⟨_, _, _, rfl, (leR _), (S.fr' rfl), (Zya _ _), (Zef ah)⟩ ?_; rintro _ f w st ⟨o, p, J, hq, U, S, bp, a4⟩ H bq a5 ak; subst hq; refine Zg fun _ a6 => Zg fun _ a7 => ?_; obtain ⟨a8, a9, ba⟩ := Zb H; refine ZO (fun f w => ∃ (L : Bool) (V : Zd), L = a8 ∧ Zd.le J V ∧ St 135 e c [(2, .int .u64 (a)), (8, .int .u64 (IntKind.u64.wrap h)), (9, .int .u64 (g)), (10, .int .u64 (ZTa .u64 a ((4294967295 : Int)))), (14, .int .u64 (ZTa .u64 k ((4294967295 : Int)))), (15, .int .u64 (d)), (16, .int .u64 (o)), (17, .int .u64 (IntKind.u64.wrap ((IntKind.u64.wrap ((IntKind.u64.wrap ((orI .u64 i j) * ((4294967296 : Int)))) + l)) - (IntKind.u64.wrap (d * a))))), (18, .int .u64 (p)), (113, .bool (L))] [] V f w) (fun _ al => ?_) ?_
    · have H := a9; rcases Zv (decide ((4294967296 : Int) ≤ p)) with C | C
      · have H := Zw H C; refine Zl (mv S rfl fun f S => ov S rfl (Zi S rfl rfl Zkb) fun f S => ?_); have S := S.bool (t := 103) rfl C; refine mv S rfl fun f S => opn S rfl rfl rfl rfl fun f S => opn S rfl rfl rfl rfl fun f S => opn S rfl rfl rfl rfl fun f S => opn S rfl rfl rfl rfl fun f S => opn S rfl rfl rfl rfl fun f S => opn S rfl rfl rfl rfl fun f S => opn S rfl rfl rfl rfl fun f S => opn S rfl rfl rfl rfl fun f S => ov S rfl (ZB S (b := true) rfl rfl) fun f S => Zk ?_; obtain rfl := Zf H; refine Zc (al _ _ ⟨_, _, rfl, (leR _), (S.fr' rfl)⟩)
      have H := Zu H C; refine Zl (mv S rfl fun f S => ov S rfl (Zi S rfl rfl Zkb) fun f S => ?_); have S := S.bool (t := 103) rfl C; refine mv S rfl fun f S => opy S rfl rfl rfl rfl (Zq S rfl) fun f S => opy S rfl rfl rfl rfl (Zq S rfl) fun f S => opy S rfl rfl rfl rfl (Zi S rfl rfl Zlc) fun f S => opy S rfl rfl rfl rfl (Zq S rfl) fun f S => opy S rfl rfl rfl rfl (Zi S rfl rfl Zlc) fun f S => opy S rfl rfl rfl rfl (Zq S rfl) fun f S => opy S rfl rfl rfl rfl (Zi S rfl rfl ZVb) fun f S => opy S rfl rfl rfl rfl (Zi S rfl rfl Zxa) fun f S => ov S rfl (ZB S (b := false) rfl rfl) fun f S => Zk ?_; obtain rfl := Zf H; refine Zc (al _ _ ⟨_, _, rfl, (leR _), (S.fr' rfl)⟩)
    rintro f w ⟨L, V, hq, W, S⟩; subst hq; have H := ba; refine Zc (a7 _ _ ?_); rcases Zv (L) with D | D
    · have H := Zw H D; refine ZH S rfl D (wp_skip (Zc (a6 _ _ (wp_block (sr (mv S rfl fun f S => ov S rfl (Zi S rfl rfl ZOd) fun f S => mw S rfl fun f S => oe (sr (mv S rfl fun f S => mv S rfl fun f S => ov S rfl (Zi S rfl rfl ZVb) fun f S => mw S rfl fun f S => ?_)))))))); refine oe (sr (mv S rfl fun f S => ov S rfl (Zi S rfl rfl Zkb) fun f S => oe ?_)); rcases Zv (decide ((4294967296 : Int) ≤ IntKind.u64.wrap (o + g))) with E | E
      · have H := Zw H E; refine ZH S rfl E (wp_exit (Z1h rfl ?_)); obtain rfl := Zf H; have hq := ak _ rfl; subst hq; have H := aj; refine ZR (Zna ?_); obtain rfl := Zf H; refine Zc (ai _ _ ⟨_, _, rfl, (leT (leT (leR _) U) W), (S.fr' rfl), (Zya _ _)⟩)
      have H := Zu H E; refine ZG S rfl E (wp_skip (Zoa ?_)); obtain rfl := Zf H; refine a5 _ rfl _ _ ⟨_, _, _, rfl, (leT U W), (S.fr' rfl), (Zya _ _), (Zya _ _)⟩
    have H := Zu H D; refine ZG S rfl D (wp_exit (ZR ?_)); obtain rfl := Zf H; have hq := ak _ rfl; subst hq; have H := aj; refine ZR (Zna ?_); obtain rfl := Zf H; refine Zc (ai _ _ ⟨_, _, rfl, (leT (leT (leR _) U) W), (S.fr' rfl), a4⟩)
  rintro f w ⟨B, T, hq, br, S, bs⟩; subst hq; have H := a1; refine Zc (aY _ _ (Zg fun _ bb => ?_)); obtain ⟨bc, am, H⟩ := Zb H; refine Zl (mv S rfl fun f S => ov S rfl (Zi S rfl rfl Zlc) fun f S => mv S rfl fun f S => ov S rfl (Zi S rfl rfl ZVb) fun f S => mv S rfl fun f S => ov S rfl (Zi S rfl rfl Zlc) fun f S => mv S rfl fun f S => ov S rfl (Zi S rfl rfl ZVb) fun f S => mv S rfl fun f S => mv S rfl fun f S => ov S rfl (Zi S rfl rfl Zlc) fun f S => ov S rfl (Zi S rfl rfl ZOd) fun f S => mv S rfl fun f S => ?_); refine ov S rfl (Zi S rfl rfl (ZGb am)) fun f S => mw S rfl fun f S => mw S rfl fun f S => Zk (Zc (bb _ _ (wp_ret ?_))); obtain rfl := Zf H; refine ZA S (ZBa rfl (ZE S rfl) (ZE S rfl)) ⟨[.int .u64 (IntKind.u64.wrap ((IntKind.u64.wrap (d * ((4294967296 : Int)))) + B))], [.int .u64 (bc)], rfl, (Zr (Zya _ _)), (Zr (ZMd (Zya _ _) am))⟩
theorem Zjm {b : World} {a : Zd} (hv : VIn a b) {c : List Value} {hi : Int} (h : Rep.rel (Za .u64) a c hi) {d : List Value} {lo : Int} (i : Rep.rel (Za .u64) a d lo) {e : List Value} {y : Int} (j : Rep.rel (Za .u64) a e y) {z : Int × Int} (hm : ZWd hi lo y = some z) :
    Ret Tryz.prog 190 #[(Za .u64).val c, (Za .u64).val d, (Za .u64).val e] b a (fun y v' => ∃ f g, y = Value.tuple #[(Za .u64).val f, (Za .u64).val g] ∧ (Za .u64).rel v' f z.1 ∧ (Za .u64).rel v' g z.2) :=
  div64_w hv h i j (Zmq hm)
theorem Zyq {E : World} {d : Zd} (hv : VIn d E) {R : List Value} {a : Nat} (g : Rep.rel ZI d R a) {T : List Value} {n : Int} (p1 : Rep.rel (Za .u64) d T n) {z : Nat × Int} (H : Zpg a n = some z) : Ret Tryz.prog 167 #[ZI.val R, (Za .u64).val T] E d (fun y v' => ∃ U V, y = .tuple #[ZI.val U, (Za .u64).val V] ∧ ZI.rel v' U z.1 ∧ (Za .u64).rel v' V z.2) := by
  obtain ⟨W, X, Y, rfl⟩ := Z9 g; obtain ⟨rfl, r4⟩ := p1; refine ZS (K := 35) (args := [.slice W X Y, .int .u64 (n)]) hv Tryz.func167 rfl rfl zl fun f S => ?_; unfold Zpg at H; refine sr (mw S rfl fun f S => mw S rfl fun f S => oe (Zg fun _ ah => ?_)); obtain ⟨y9, F, H⟩ := Zb H; refine Zl (mv S rfl fun f S => ov S rfl (ZJ S (Zy g) rfl rfl ZT) fun f S => ?_); obtain ⟨Z, aa⟩ : ∃ c : List Value, c = (List.replicate ((((Zj 18446744073709551616 a)).length : Int)).toNat [.int .u64 ((0 : Int))]).flatten := ⟨_, rfl⟩; obtain ⟨ai, w, aj, S⟩ := Znc Z1c S (l := (((Zj 18446744073709551616 a)).length : Int)) (c := (((Zj 18446744073709551616 a)).length : Int)) (Zja F).1 (Zja F).2.1 (Zja F).2.2.1 (Zja F).2.2.2 aa; have ak : Rep.rels (Za .u64) d Z (List.replicate ((((Zj 18446744073709551616 a)).length : Int)).toNat ((0 : Int))) := by rw [aa]; exact Z4b (show Rep.rel (Za .u64) _ [.int .u64 ((0 : Int))] _ from (Zr (by decide))) _
  refine Zra wn rfl zl (aj rfl rfl) S fun f S => mw S rfl fun f S => Zk (Zc (ah _ _ (sr (mw S rfl fun f S => oe (Zg fun _ al => Zg fun _ am => ?_))))); obtain ⟨aV, ab, H⟩ := Zb H; refine Zl (mv S rfl fun f S => ov S rfl (ZJ S (Zy g) rfl rfl ZT) fun f S => ov S rfl (Zi S rfl rfl (ZHa ab)) fun f S => mw S rfl fun f S => Zk (Zc (am _ _ ?_))); obtain ⟨an, ao, ap⟩ := Zb H; refine ZO (fun f w => ∃ (o : (List Int)) (s : Int) (t : Option Nat) (p : Nat) (u : Nat) (L : List Value) (G : Zd), (o, s) = an ∧ Zd.le d G ∧ St 35 E d [(6, .slice (mkA t) (p) u), (7, .int .u64 (s))] [Loc.own t 211 1 (p) u L] G f w ∧ Rep.rels (Za .u64) G L o ∧ p = o.length ∧ inR .u64 s) (fun _ aq => ?_) ?_
  · have H := ao; refine wp_block ?_; obtain ⟨aW, ar, au⟩ := Zb H; refine Zpa ar (fun av f w => ∃ (q : (List Int)) (h : Int) (b : Int) (I : Option Nat) (k : Nat) (v : Nat) (e : List Value) (J : Zd), (q, h, b) = av ∧ Zd.le d J ∧ St 35 E d [(0, .slice W X Y), (1, .int .u64 (n)), (6, .slice (mkA I) (k) v), (7, .int .u64 (h)), (8, .int .i64 (b))] [Loc.own I 211 1 (k) v e] J f w ∧ Rep.rels (Za .u64) J e q ∧ k = q.length ∧ inR .u64 h ∧ inR .i64 b) ⟨_, _, _, some ai, ((((Zj 18446744073709551616 a)).length : Int)).toNat, ((((Zj 18446744073709551616 a)).length : Int)).toNat, Z, _, rfl, (leR _), (S.fr' rfl), ak, (ZLb (x := (0 : Int))), (by decide), (Zda ab).2⟩ ?_; rintro _ f w st ⟨q, h, b, I, k, v, e, J, hq, M, S, B, C, ac, aX⟩ H aY aw ax; subst hq; refine Zg fun _ ay => sr (mv S rfl fun f S => ov S rfl (Zi S rfl rfl Zkb) fun f S => oe ?_); rcases Zv (decide ((0 : Int) ≤ b)) with D | D
    · have H := Zw H D; refine ZH S rfl D (wp_skip (Zc (ay _ _ (Zg fun _ az => wp_block ?_)))); obtain ⟨N, O, H⟩ := Zb H; obtain ⟨m, aA, H⟩ := Zb H; obtain ⟨aZ, r, H⟩ := Zb H; refine Zl (mv S rfl fun f S => mv S rfl fun f S => mv S rfl fun f S => mv S rfl fun f S => mv S rfl fun f S => ?_); have g := Zo M g; obtain ⟨_, a0, a1, a2, rfl, P, aB⟩ := Zqa g (Zm O).2.1; obtain ⟨rfl, aC⟩ := aB; refine ov S rfl (ZU S rfl rfl ZT (Zm O).1 (ltI (Zy g) (Zm O).2.2.1)) fun f S => ov S rfl (Zba S rfl Zza (S.view P)) fun f S => mv S rfl fun f S => opc S rfl (Zn S [.int .u64 (h), .int .u64 (N), .int .u64 (n)] Z7m rfl rfl) (Zjm S.vin (show Rep.rel (Za .u64) _ [.int .u64 (h)] h from (Zr ac)) (show Rep.rel (Za .u64) _ [.int .u64 (N)] N from (Zr aC)) (show Rep.rel (Za .u64) _ [.int .u64 (n)] n from (Zr r4)) aA) ?_; rintro _ ad f w Q ⟨a3, a4, rfl, aD, aE⟩ S; have B := ZX Q B; have P := Atm Q P; obtain ⟨rfl, aF⟩ := aD; obtain ⟨rfl, aG⟩ := aE; refine mv S rfl fun f S => ov S rfl (ZP S rfl rfl) fun f S => ov S rfl (ZP S rfl rfl) fun f S => ?_; obtain ⟨aH, rfl⟩ := ZWb S (j := 0) rfl (Zdc C (Zm r).2.2.2); have ae := ZGa B (Zm r).2.1; obtain ⟨a5, aI⟩ : ∃ c, (List.take (Za .u64).n (List.drop ((b).toNat * (Za .u64).n) e)) = c := ⟨_, rfl⟩
      rw [aI] at ae; obtain ⟨rfl, a6⟩ := ae; refine ov S rfl (ZU S rfl rfl ZT (Zm r).1 (ltI C (Zm r).2.2.1)) fun f S => ?_; obtain ⟨w, aJ, S⟩ := ZYb S Zza (off := 0 + (b).toNat * 1) (z := .int .u64 (m.1)) (cs := [.int .u64 (m.1)]) (ZNb rfl) rfl (i := 0) rfl (ZZb S (j := 0) rfl (ltN C (Zm r).2.2.2)) (by first | rfl | simp [ZWa]); have aK : Rep.rels (Za .u64) ad (List.take (0 + (b).toNat * 1) e ++ [Value.int IntKind.u64 (m.1)] ++ List.drop (0 + (b).toNat * 1 + 1) e) (q.set (b).toNat m.1) := ZPb B (Zm r).2.2.2 (show Rep.rel (Za .u64) ad [.int .u64 (m.1)] _ from (Zr aF)) rfl rfl; have aL : k = (q.set (b).toNat m.1).length := ZQb C; refine ZZ wn rfl (aJ rfl rfl) (mw S rfl fun f S => Zk (Zoa (Zc (az _ _ ?_)))); obtain ⟨a7, af, H⟩ := Zb H; refine Zl (mv S rfl fun f S => ov S rfl (Zi S rfl rfl (ZHa af)) fun f S => mw S rfl fun f S => Zk ?_); obtain rfl := Zf H; refine aw _ rfl _ _ ⟨_, _, _, some aH, k, v, (List.take (0 + (b).toNat * 1) e ++ [Value.int IntKind.u64 (m.1)] ++ List.drop (0 + (b).toNat * 1 + 1) e), _, rfl, (leT M Q), (S.fr' rfl), aK, aL, aG, (Zda af).2⟩
    have H := Zu H D; refine ZG S rfl D (wp_exit (ZR ?_)); obtain rfl := Zf H; have hq := ax _ rfl; subst hq; have H := au; refine ZR (Zna ?_); obtain rfl := Zf H; refine Zc (aq _ _ ⟨_, _, I, k, v, e, _, rfl, (leT (leR _) M), (S.fr' rfl), B, C, ac⟩)
  rintro f w ⟨o, s, t, p, u, L, G, hq, a8, S, aM, aN, aO⟩; subst hq; have H := ap; refine Zc (al _ _ (Zg fun _ aP => ?_)); obtain ⟨a9, aQ, H⟩ := Zb H; refine Zl (mv S rfl fun f S => ?_); obtain ⟨ba, bb, S, aR⟩ := S.pubSlice (i := 0) (A := (Za .u64)) (l := o) (ℓ' := []) rfl rfl aN aM rfl; refine opc S rfl (Zn S [.slice (mkA t) (p) u] ZRd rfl rfl) (ZLd S.vin (show Rep.rel (Zs (Za .u64)) _ [.slice (mkA t) (p) u] o from aR) aQ) ?_; rintro _ bc f w bd ⟨be, rfl, ag⟩ S; obtain ⟨aS, aT, aU, rfl⟩ := Z9 ag; refine mv S rfl fun f S => mw S rfl fun f S => mw S rfl fun f S => Zk (Zc (aP _ _ (wp_ret ?_))); obtain rfl := Zf H; refine ZA S (ZBa rfl (ZE S rfl) (ZE S rfl)) ⟨[.slice aS aT aU], [.int .u64 (s)], rfl, ag, (Zr aO)⟩
theorem ZXm {c : World} {b : Zd} (hv : VIn b c) {d : List Value} {a : Nat} (i : Rep.rel ZI b d a) {e : List Value} {n : Int} (f : Rep.rel (Za .u64) b e n) {z : Nat × Int} (hm : Zje a n = some z) :
    Ret Tryz.prog 167 #[ZI.val d, (Za .u64).val e] c b (fun y v' => ∃ g h, y = Value.tuple #[ZI.val g, (Za .u64).val h] ∧ ZI.rel v' g z.1 ∧ (Za .u64).rel v' h z.2) :=
  Zyq hv i f (Z6n f.2 hm)
theorem cmp_w {m : World} {e : Zd} (hv : VIn e m) {A : List Value} {a : (List Int)} (c : Rep.rel (Zs (Za .u64)) e A a) {B : List Value} {b : (List Int)} (d : Rep.rel (Zs (Za .u64)) e B b) {z : Int} (H : ZRj a b = some z) : Ret Tryz.prog 87 #[(Zs (Za .u64)).val A, (Zs (Za .u64)).val B] m e (fun y v' => ∃ C, y = (Za .i64).val C ∧ (Za .i64).rel v' C z) := by
  obtain ⟨D, E, G, rfl⟩ := Zsa c; obtain ⟨I, J, L, rfl⟩ := Zsa d; refine ZS (K := 41) (args := [.slice D (E) G, .slice I (J) L]) hv Tryz.func87 rfl rfl zl fun f S => ?_; unfold ZRj at H; refine sr (mw S rfl fun f S => oe (Zg fun _ P => sr (mv S rfl fun f S => ov S rfl (ZJ S (Zy c) rfl rfl ZT) fun f S => mv S rfl fun f S => ov S rfl (ZJ S (Zy d) rfl rfl ZT) fun f S => ov S rfl (Zi S rfl rfl Zgc) fun f S => oe ?_))); rcases Zv (((a.length : Int)) != ((b.length : Int))) with g | g
  · have H := Zw H g; refine ZH S rfl g (Zg fun _ Q => sr (mv S rfl fun f S => ov S rfl (ZJ S (Zy c) rfl rfl ZT) fun f S => mv S rfl fun f S => ov S rfl (ZJ S (Zy d) rfl rfl ZT) fun f S => ov S rfl (Zi S rfl rfl Z7) fun f S => oe ?_)); rcases Zv (decide ((a.length : Int) < (b.length : Int))) with h | h
    · have H := Zw H h; refine ZH S rfl h (sr (mw S rfl fun f S => oe (wp_ret (ZN (ZN ?_))))); obtain rfl := Zf H; refine ZA S (ZK rfl (ZE S rfl)) ⟨[.int .i64 ((-1 : Int))], rfl, (Zr (by decide))⟩
    have H := Zu H h; refine ZG S rfl h (wp_skip (Zc (Q _ _ (sr (mw S rfl fun f S => oe (wp_ret (ZN ?_))))))); obtain rfl := Zf H; refine ZA S (ZK rfl (ZE S rfl)) ⟨[.int .i64 ((1 : Int))], rfl, (Zr (by decide))⟩
  have H := Zu H g; refine ZG S rfl g (wp_skip (Zc (P _ _ (Zg fun _ R => Zg fun _ T => ?_)))); obtain ⟨ar, M, H⟩ := Zb H; refine Zl (mv S rfl fun f S => ov S rfl (ZJ S (Zy c) rfl rfl ZT) fun f S => ov S rfl (Zi S rfl rfl (ZHa M)) fun f S => mw S rfl fun f S => Zk (Zc (T _ _ ?_))); obtain ⟨U, V, o⟩ := Zb H; refine ZO (fun f w => ∃  (p : Zd), (.inl (())) = U ∧ Zd.le e p ∧ St 41 m e [] [] p f w) (fun _ W => ?_) ?_
  · have H := V; refine wp_block ?_; obtain ⟨au, X, q⟩ := Zb H; refine Zpa X (fun Y f w => ∃ (i : Int) (r : Zd), i = Y ∧ Zd.le e r ∧ St 41 m e [(0, .slice D (E) G), (1, .slice I (J) L), (5, .int .i64 (i))] [] r f w ∧ inR .i64 i) ⟨_, _, rfl, (leR _), (S.fr' rfl), (Zda M).2⟩ ?_; rintro _ f w st ⟨i, r, hq, n, S, av⟩ H aw Z s; subst hq; refine Zg fun _ aa => sr (mv S rfl fun f S => ov S rfl (Zi S rfl rfl Zkb) fun f S => oe ?_); rcases Zv (decide ((0 : Int) ≤ i)) with j | j
    · have H := Zw H j; refine ZH S rfl j (wp_skip (Zc (aa _ _ (Zg fun _ ab => wp_block (Zg fun _ ac => Zg fun _ ad => ?_))))); obtain ⟨ae, t, H⟩ := Zb H; obtain ⟨af, u, H⟩ := Zb H; refine Z3 (fl := #[true, true, true, true, true, true, true, true, true]) Z4 (by kernel_rfl) S ?_; intro ops O F w S; refine rfa O F 0 rfl rfl S (Zq S rfl) fun f S => rfa O F 1 rfl rfl S (Zq S rfl) fun f S => ?_; have c := Zo n c; obtain ⟨_, ax, ay, az, rfl, ag, ah⟩ := Zqa c (Zm t).2.1; obtain ⟨rfl, aA⟩ := ah; refine rfa O F 2 rfl rfl S (ZU S rfl rfl ZT (Zm t).1 (ltI (Zy c) (Zm t).2.2.1)) fun f S => rfa O F 3 rfl rfl S (Zba S rfl Zza (S.view ag)) fun f S => rfa O F 4 rfl rfl S (Zq S rfl) fun f S => rfa O F 5 rfl rfl S (Zq S rfl) fun f S => ?_; have d := Zo n d; obtain ⟨_, aB, aC, aD, rfl, ai, aj⟩ := Zqa d (Zm u).2.1; obtain ⟨rfl, aE⟩ := aj; refine rfa O F 6 rfl rfl S (ZU S rfl rfl ZT (Zm u).1 (ltI (Zy d) (Zm u).2.2.1)) fun f S => rfa O F 7 rfl rfl S (Zba S rfl Zza (S.view ai)) fun f S => rfa O F 8 rfl rfl S (Zi S rfl rfl Z7) fun f S => ZY O F (Zc (ad _ _ ?_)); rcases Zv (decide (ae < af)) with k | k
      · have H := Zw H k; refine ZH S rfl k (sr (mw S rfl fun f S => oe (wp_ret (ZN (ZUa (ZN ?_)))))); obtain rfl := Zf H; have hq := s _ rfl; subst hq; have H := q; refine ZN (ZUa ?_); obtain rfl := Zf H; have H := o; refine ZN (ZN ?_); obtain rfl := Zf H; refine ZA S (ZK rfl (ZE S rfl)) ⟨[.int .i64 ((-1 : Int))], rfl, (Zr (by decide))⟩
      have H := Zu H k; refine ZG S rfl k (wp_skip (Zc (ac _ _ (Zg fun _ ak => ?_)))); obtain ⟨al, v, H⟩ := Zb H; obtain ⟨am, x, H⟩ := Zb H; refine Z3 (fl := #[true, true, true, true, true, true, true, true, true]) Z4 (by kernel_rfl) S ?_; intro ops O F w S; refine rfa O F 0 rfl rfl S (Zq S rfl) fun f S => rfa O F 1 rfl rfl S (Zq S rfl) fun f S => ?_; obtain ⟨aF, an, ao⟩ := ZXc c (Zm v).2.1; obtain ⟨rfl, aG⟩ := ao; refine rfa O F 2 rfl rfl S (ZU S rfl rfl ZT (Zm v).1 (ltI (Zy c) (Zm v).2.2.1)) fun f S => rfa O F 3 rfl rfl S (Zba S rfl Zza (S.view an)) fun f S => rfa O F 4 rfl rfl S (Zq S rfl) fun f S => rfa O F 5 rfl rfl S (Zq S rfl) fun f S => ?_; obtain ⟨aH, ap, aq⟩ := ZXc d (Zm x).2.1; obtain ⟨rfl, aI⟩ := aq; refine rfa O F 6 rfl rfl S (ZU S rfl rfl ZT (Zm x).1 (ltI (Zy d) (Zm x).2.2.1)) fun f S => rfa O F 7 rfl rfl S (Zba S rfl Zza (S.view ap)) fun f S => rfa O F 8 rfl rfl S (Zi S rfl rfl Zxa) fun f S => ZY O F (Zc (ak _ _ ?_)); rcases Zv (decide (am < al)) with l | l
      · have H := Zw H l; refine ZH S rfl l (sr (mw S rfl fun f S => oe (wp_ret (ZUa (ZN ?_))))); obtain rfl := Zf H; have hq := s _ rfl; subst hq; have H := q; refine ZN (ZUa ?_); obtain rfl := Zf H; have H := o; refine ZN (ZN ?_); obtain rfl := Zf H; refine ZA S (ZK rfl (ZE S rfl)) ⟨[.int .i64 ((1 : Int))], rfl, (Zr (by decide))⟩
      have H := Zu H l; refine ZG S rfl l (wp_skip (Zoa (Zc (ab _ _ ?_)))); obtain ⟨aJ, N, H⟩ := Zb H; refine Zl (mv S rfl fun f S => ov S rfl (Zi S rfl rfl (ZHa N)) fun f S => mw S rfl fun f S => Zk ?_); obtain rfl := Zf H; refine Z _ rfl _ _ ⟨_, _, rfl, n, (S.fr' rfl), (Zda N).2⟩
    have H := Zu H j; refine ZG S rfl j (wp_exit (ZR ?_)); obtain rfl := Zf H; have hq := s _ rfl; subst hq; have H := q; refine ZR (Zna ?_); obtain rfl := Zf H; refine Zc (W _ _ ⟨_, rfl, (leT (leR _) n), (S.fr' rfl)⟩)
  rintro f w ⟨p, hq, aK, S⟩; subst hq; have H := o; refine Zc (R _ _ (sr (mw S rfl fun f S => oe (wp_ret ?_)))); obtain rfl := Zf H; refine ZA S (ZK rfl (ZE S rfl)) ⟨[.int .i64 ((0 : Int))], rfl, (Zr (by decide))⟩
theorem ZPf {d : World} {c : Zd} (hv : VIn c d) {e : List Value} {a : Nat} (f : Rep.rel ZI c e a) {g : List Value} {b : Nat} (h : Rep.rel ZI c g b) {z : Int} (hm : Z2d a b = some z) :
    Ret Tryz.prog 87 #[ZI.val e, ZI.val g] d c (fun y v' => ∃ i, y = (Za .i64).val i ∧ (Za .i64).rel v' i z) :=
  cmp_w hv f h ((cmp_eq (Zbm f) (Zbm h)).trans hm)
theorem mul64_w {e : World} {a : Zd} (hv : VIn a e) {g : List Value} {x : Int} (l : Rep.rel (Za .u64) a g x) {h : List Value} {y : Int} (m : Rep.rel (Za .u64) a h y) {z : Int × Int} (H : ZHh x y = some z) : Ret Tryz.prog 147 #[(Za .u64).val g, (Za .u64).val h] e a (fun y v' => ∃ i c, y = .tuple #[(Za .u64).val i, (Za .u64).val c] ∧ (Za .u64).rel v' i z.1 ∧ (Za .u64).rel v' c z.2) := by
  obtain ⟨rfl, c⟩ := l; obtain ⟨rfl, B⟩ := m; refine ZS (K := 51) (args := [.int .u64 (x), .int .u64 (y)]) hv Tryz.func147 rfl rfl zl fun f S => ?_; unfold ZHh at H; refine sr (mw S rfl fun f S => mw S rfl fun f S => oe (sr (mv S rfl fun f S => ov S rfl (Zi S rfl rfl ZNf) fun f S => mw S rfl fun f S => oe (Zg fun _ n => ?_)))); obtain ⟨b, o, H⟩ := Zb H; refine Zl (mv S rfl fun f S => ov S rfl (Zi S rfl rfl (ZGb o)) fun f S => mw S rfl fun f S => Zk (Zc (n _ _ (sr (mv S rfl fun f S => ov S rfl (Zi S rfl rfl ZNf) fun f S => mw S rfl fun f S => oe (Zg fun _ p => ?_)))))); obtain ⟨d, q, H⟩ := Zb H; refine Zl (mv S rfl fun f S => ov S rfl (Zi S rfl rfl (ZGb q)) fun f S => mw S rfl fun f S => Zk (Zc (p _ _ (sr (mv S rfl fun f S => mv S rfl fun f S => ov S rfl (Zi S rfl rfl Zlc) fun f S => mw S rfl fun f S => oe (Zg fun _ r => ?_)))))); obtain ⟨s, t, H⟩ := Zb H; refine Zl (mv S rfl fun f S => mv S rfl fun f S => ov S rfl (Zi S rfl rfl Zlc) fun f S => mv S rfl fun f S => ov S rfl (Zi S rfl rfl (ZGb t)) fun f S => ov S rfl (Zi S rfl rfl ZVb) fun f S => mw S rfl fun f S => Zk ?_); have S := S.fr' (σ' := [(0, .int .u64 (x)), (1, .int .u64 (y)), (6, .int .u64 (ZTa .u64 x ((4294967295 : Int)))), (7, .int .u64 (b)), (9, .int .u64 (d)), (11, .int .u64 (IntKind.u64.wrap ((IntKind.u64.wrap (b * (ZTa .u64 y ((4294967295 : Int))))) + s)))]) rfl
  refine Zc (r _ _ (sr (mv S rfl fun f S => ov S rfl (Zi S rfl rfl ZNf) fun f S => mw S rfl fun f S => oe (Zg fun _ u => ?_)))); obtain ⟨j, v, H⟩ := Zb H; refine Zl (mv S rfl fun f S => ov S rfl (Zi S rfl rfl (ZGb v)) fun f S => mw S rfl fun f S => Zk (Zc (u _ _ (sr (mv S rfl fun f S => mv S rfl fun f S => mv S rfl fun f S => ov S rfl (Zi S rfl rfl Zlc) fun f S => ov S rfl (Zi S rfl rfl ZVb) fun f S => mw S rfl fun f S => oe ?_))))); refine Zg fun _ w => ?_; obtain ⟨k, A, H⟩ := Zb H; refine Zl (mv S rfl fun f S => mv S rfl fun f S => ov S rfl (Zi S rfl rfl Zlc) fun f S => mv S rfl fun f S => ov S rfl (Zi S rfl rfl ZVb) fun f S => mv S rfl fun f S => ov S rfl (Zi S rfl rfl (ZGb A)) fun f S => ov S rfl (Zi S rfl rfl ZVb) fun f S => mw S rfl fun f S => Zk (Zc (w _ _ (sr (mv S rfl fun f S => ?_))))); refine mv S rfl fun f S => ov S rfl (Zi S rfl rfl Zlc) fun f S => mw S rfl fun f S => ?_; have S := S.fr' (σ' := [(4, .int .u64 (IntKind.u64.wrap ((IntKind.u64.wrap ((IntKind.u64.wrap (b * d)) + j)) + k))), (5, .int .u64 (IntKind.u64.wrap (x * y)))]) rfl; refine oe (wp_ret ?_); obtain rfl := Zf H; refine ZA S (ZBa rfl (ZE S rfl) (ZE S rfl)) ⟨[.int .u64 (IntKind.u64.wrap ((IntKind.u64.wrap ((IntKind.u64.wrap (b * d)) + j)) + k))], [.int .u64 (IntKind.u64.wrap (x * y))], rfl, (Zr (Zya _ _)), (Zr (Zya _ _))⟩
theorem ZSk {b : World} {a : Zd} (hv : VIn a b) {c : List Value} {x : Int} (g : Rep.rel (Za .u64) a c x) {d : List Value} {y : Int} (h : Rep.rel (Za .u64) a d y) {z : Int × Int} (hm : Z1d x y = some z) :
    Ret Tryz.prog 147 #[(Za .u64).val c, (Za .u64).val d] b a (fun y v' => ∃ e f, y = Value.tuple #[(Za .u64).val e, (Za .u64).val f] ∧ (Za .u64).rel v' e z.1 ∧ (Za .u64).rel v' f z.2) :=
  mul64_w hv g h (ZLn hm)
theorem take_w {R : World} {o : Zd} (hv : VIn o R) {a off0 g C : Nat} {E : TypeId} {pre0 cs0 post0 : List Value} {u : (List Int)} (bf : R.heap[a]? = some (.cells (pre0 ++ cs0 ++ post0).toArray E (0, 0))) (aG : off0 = pre0.length) (bg : o a = none) (au : g = u.length) (bh : g ≤ C ∧ C ≤ maxLen) (r : Rep.rels (Za .u64) o cs0 u) {c1 : List Value} {v : Nat} (D : Rep.rel ZI o c1 v) {c2 : List Value} {q : Int} (p2 : Rep.rel (Za .u64) o c2 q) {z : Bool × (List Int)} (H : ZKg u v q = some z) : RetL Tryz.prog 197 #[.slice (some ⟨a, off0, none⟩) g C, ZI.val c1, (Za .u64).val c2] R o [a] (fun y v' w' => (∃ r0, y = Z5.val r0 ∧ Z5.rel v' r0 z.1) ∧ v' a = none ∧ ∃ cs, w'.heap[a]? = some (.cells (pre0 ++ cs ++ post0).toArray E (0, 0)) ∧ g = z.2.length ∧ Rep.rels (Za .u64) v' cs z.2) := by
  obtain ⟨q1, V, W, rfl⟩ := Z9 D; obtain ⟨rfl, r4⟩ := p2; refine Zyl (K := 79) (args := [.slice (some ⟨a, off0, none⟩) (g) C, .slice q1 V W, .int .u64 (q)]) hv bf bg Tryz.func197 rfl rfl zl fun f S => ?_; unfold ZKg at H; refine sr (mw S rfl fun f S => oe (Zg fun _ bi => ?_)); obtain ⟨J, bj, H⟩ := Zb H; obtain ⟨cA, av, H⟩ := Zb H; refine Zl (mv S rfl fun f S => ov S rfl (ZJ S (Zy D) rfl rfl ZT) fun f S => ov S rfl (Zi S rfl rfl (Zha bj)) fun f S => ?_); obtain ⟨aH, aQ⟩ : ∃ c : List Value, c = (List.replicate (J).toNat [.int .u64 ((0 : Int))]).flatten := ⟨_, rfl⟩; obtain ⟨aR, w, bk, S⟩ := Znc Z1c S (l := J) (c := J) (Zja av).1 (Zja av).2.1 (Zja av).2.2.1 (Zja av).2.2.2 aQ; have bm : Rep.rels (Za .u64) o aH (List.replicate (J).toNat ((0 : Int))) := by rw [aQ]; exact Z4b (show Rep.rel (Za .u64) _ [.int .u64 ((0 : Int))] _ from (Zr (by decide))) _
  refine Zra wn rfl zl (bk rfl rfl) S fun f S => mw S rfl fun f S => Zk (Zc (bi _ _ (sr (mw S rfl fun f S => oe (Zg fun _ bn => sr (mv S rfl fun f S => ov S rfl (ZJ S (Zy D) rfl rfl ZT) fun f S => mv S rfl fun f S => oe ?_)))))); obtain ⟨bo, bp, bq⟩ := Zb H; refine ZO (fun f w => ∃ (L : (List Int)) (b : Int) (aI : Option Nat) (s : Nat) (G : Nat) (h : List Value) (X : Zd), (L, b) = bo ∧ Zd.le o X ∧ St 79 ⟨R, [a]⟩ o [(0, .slice (some ⟨a, off0, none⟩) (g) C), (1, .slice q1 V W), (7, .slice (mkA aI) (s) G), (8, .int .u64 (b))] [Loc.box a E (pre0 ++ cs0 ++ post0), Loc.own aI 211 1 (s) G h] X f w ∧ Rep.rels (Za .u64) X h L ∧ s = L.length ∧ inR .u64 b) (fun _ br => ?_) ?_
  · have H := bp; refine wp_block ?_; obtain ⟨cB, bs, bt⟩ := Zb H; have S := S.reorder (ℓ' := [Loc.box a E (pre0 ++ cs0 ++ post0), Loc.own (some aR) 211 1 ((J).toNat) (J).toNat aH]) [1, 0] rfl (by decide); refine Zpa bs (fun bu f w => ∃ (Y : (List Int)) (ag : Int) (m : Int) (aw : Option Nat) (M : Nat) (Z : Nat) (I : List Value) (ax : Zd), (Y, ag, m) = bu ∧ Zd.le o ax ∧ St 79 ⟨R, [a]⟩ o [(0, .slice (some ⟨a, off0, none⟩) (g) C), (1, .slice q1 V W), (2, .int .u64 (q)), (7, .slice (mkA aw) (M) Z), (8, .int .u64 (ag)), (20, .slice q1 V W), (21, .int .i64 ((((Zj 18446744073709551616 v)).length : Int))), (22, .int .i64 (m))] [Loc.box a E (pre0 ++ cs0 ++ post0), Loc.own aw 211 1 (M) Z I] ax f w ∧ Rep.rels (Za .u64) ax I Y ∧ M = Y.length ∧ inR .u64 ag ∧ inR .i64 m) ⟨_, _, _, some aR, (J).toNat, (J).toNat, aH, _, rfl, (leR _), (S.fr' rfl), bm, (ZLb (x := (0 : Int))), (by decide), (by decide)⟩ ?_; rintro _ f w st ⟨Y, ag, m, aw, M, Z, I, ax, hq, ay, S, ah, ai, bv, cC⟩ H cD bw bx; subst hq; have r := ZX ay r; refine sr (ov S rfl (Zi S rfl rfl Z7) fun f S => oe (Zg fun _ bz => ?_)); rcases Zv (decide (m < (((Zj 18446744073709551616 v)).length : Int))) with aj | aj
    · have H := Zw H aj; refine ZH S rfl aj (wp_skip (Zc (bz _ _ (Zg fun _ bA => wp_block (Zg fun _ bB => ?_))))); obtain ⟨aJ, aK, H⟩ := Zb H; refine Zl (mv S rfl fun f S => ?_); have D := Zo ay D; obtain ⟨_, aS, aT, cE, rfl, bC, bD⟩ := Zqa D (Zm aK).2.1; obtain ⟨rfl, bE⟩ := bD; refine ov S rfl (ZU S rfl rfl ZT (Zm aK).1 (ltI (Zy D) (Zm aK).2.2.1)) fun f S => ov S rfl (Zba S rfl Zza (S.view bC)) fun f S => mw S rfl fun f S => mw S rfl fun f S => Zk (Zc (bB _ _ (Zg fun _ bF => ?_))); obtain ⟨aU, bG, H⟩ := Zb H; refine Zl (mv S rfl fun f S => mv S rfl fun f S => opc S rfl (Zn S [.int .u64 (aJ), .int .u64 (q)] Zok rfl rfl) (ZSk S.vin (show Rep.rel (Za .u64) _ [.int .u64 (aJ)] aJ from (Zr bE)) (show Rep.rel (Za .u64) _ [.int .u64 (q)] q from (Zr r4)) bG) ?_); rintro _ aV f w aL ⟨cF, cG, rfl, bH, bI⟩ S; have r := ZX aL r; have ah := ZX aL ah; obtain ⟨rfl, cH⟩ := bH; obtain ⟨rfl, cI⟩ := bI; refine mv S rfl fun f S => ov S rfl (ZP S rfl rfl) fun f S => ov S rfl (ZP S rfl rfl) fun f S => mw S rfl fun f S => mw S rfl fun f S => Zk (Zc (bF _ _ (sr (mw S rfl fun f S => oe (Zg fun _ bJ => ?_))))); obtain ⟨N, aW, H⟩ := Zb H; obtain ⟨cJ, aa, H⟩ := Zb H; refine Zl (mv S rfl fun f S => mv S rfl fun f S => mv S rfl fun f S => mv S rfl fun f S => ov S rfl (Z9e S [.int .u64 (aU.2), .int .u64 (ag), .int .u64 ((0 : Int))] (ZNg Zbh aW) rfl rfl) fun f S => mv S rfl fun f S => ov S rfl (ZP S rfl rfl) fun f S => ov S rfl (ZP S rfl rfl) fun f S => ?_)
      obtain ⟨aX, rfl⟩ := ZWb S (j := 1) rfl (Zdc ai (Zm aa).2.2.2); have aY := ZGa ah (Zm aa).2.1; obtain ⟨cK, bK⟩ : ∃ c, (List.take (Za .u64).n (List.drop ((m).toNat * (Za .u64).n) I)) = c := ⟨_, rfl⟩; rw [bK] at aY; obtain ⟨rfl, cL⟩ := aY; refine ov S rfl (ZU S rfl rfl ZT (Zm aa).1 (ltI ai (Zm aa).2.2.1)) fun f S => ?_; obtain ⟨w, bL, S⟩ := ZYb S Zza (off := 0 + (m).toNat * 1) (z := .int .u64 (N.1)) (cs := [.int .u64 (N.1)]) (ZNb rfl) rfl (i := 1) rfl (ZZb S (j := 1) rfl (ltN ai (Zm aa).2.2.2)) (by first | rfl | simp [ZWa]); have bM : Rep.rels (Za .u64) aV (List.take (0 + (m).toNat * 1) I ++ [Value.int IntKind.u64 (N.1)] ++ List.drop (0 + (m).toNat * 1 + 1) I) (Y.set (m).toNat N.1) := ZPb ah (Zm aa).2.2.2 (show Rep.rel (Za .u64) aV [.int .u64 (N.1)] _ from (Zr (Zvj aW))) rfl rfl; have bN : M = (Y.set (m).toNat N.1).length := ZQb ai; refine ZZ wn rfl (bL rfl rfl) (mw S rfl fun f S => Zk ?_); have S := S.fr' (σ' := [(0, .slice (some ⟨a, off0, none⟩) (g) C), (1, .slice (some ⟨aS, aT, none⟩) V W), (2, .int .u64 (q)), (7, .slice (mkA (some aX)) (M) Z), (11, .int .u64 (aU.1)), (13, .int .u64 (N.2)), (20, .slice (some ⟨aS, aT, none⟩) V W), (21, .int .i64 ((((Zj 18446744073709551616 v)).length : Int))), (22, .int .i64 (m))]) rfl
      refine Zc (bJ _ _ (Zl (mv S rfl fun f S => mv S rfl fun f S => ov S rfl (Zi S rfl rfl ZVb) fun f S => mw S rfl fun f S => Zk (Zoa (Zc (bA _ _ ?_)))))); obtain ⟨cM, aZ, H⟩ := Zb H; refine Zl (ov S rfl (Zi S rfl rfl (Zha aZ)) fun f S => mv S rfl fun f S => Zk ?_); obtain rfl := Zf H; refine bw _ rfl _ _ ⟨_, _, _, some aX, M, Z, (List.take (0 + (m).toNat * 1) I ++ [Value.int IntKind.u64 (N.1)] ++ List.drop (0 + (m).toNat * 1 + 1) I), _, rfl, (leT ay aL), (S.fr' rfl), bM, bN, (Zya _ _), (Zda aZ).2⟩
    have H := Zu H aj; refine ZG S rfl aj (wp_exit (ZR ?_)); obtain rfl := Zf H; have hq := bx _ rfl; subst hq; have H := bt; refine ZR (Zna ?_); obtain rfl := Zf H; refine Zc (br _ _ ⟨_, _, aw, M, Z, I, _, rfl, (leT (leR _) ay), (S.fr' rfl), ah, ai, bv⟩)
  rintro f w ⟨L, b, aI, s, G, h, X, hq, a0, S, a1, az, bO⟩; subst hq; have H := bq; have r := ZX a0 r; refine Zc (bn _ _ (Zg fun _ bP => ?_)); obtain ⟨cN, ab, H⟩ := Zb H; refine Zl (mv S rfl fun f S => mv S rfl fun f S => ?_); have D := Zo a0 D; refine ov S rfl (ZJ S (Zy D) rfl rfl ZT) fun f S => mv S rfl fun f S => ?_; obtain ⟨ac, rfl⟩ := ZWb S (j := 1) rfl (Zdc az (Zm ab).2.2.2); have a2 := ZGa a1 (Zm ab).2.1; obtain ⟨cO, bQ⟩ : ∃ c, (List.take (Za .u64).n (List.drop (((((Zj 18446744073709551616 v)).length : Int)).toNat * (Za .u64).n) h)) = c := ⟨_, rfl⟩; rw [bQ] at a2; obtain ⟨rfl, cP⟩ := a2; refine ov S rfl (ZU S rfl rfl ZT (Zm ab).1 (ltI az (Zm ab).2.2.1)) fun f S => ?_; obtain ⟨w, bR, S⟩ := ZYb S Zza (off := 0 + ((((Zj 18446744073709551616 v)).length : Int)).toNat * 1) (z := .int .u64 (b)) (cs := [.int .u64 (b)]) (ZNb rfl) rfl (i := 1) rfl (ZZb S (j := 1) rfl (ltN az (Zm ab).2.2.2)) (by first | rfl | simp [ZWa]); have p : Rep.rels (Za .u64) X (List.take (0 + ((((Zj 18446744073709551616 v)).length : Int)).toNat * 1) h ++ [Value.int IntKind.u64 (b)] ++ List.drop (0 + ((((Zj 18446744073709551616 v)).length : Int)).toNat * 1 + 1) h) (L.set ((((Zj 18446744073709551616 v)).length : Int)).toNat b) := ZPb a1 (Zm ab).2.2.2 (show Rep.rel (Za .u64) X [.int .u64 (b)] _ from (Zr bO)) rfl rfl
  have aM : s = (L.set ((((Zj 18446744073709551616 v)).length : Int)).toNat b).length := ZQb az; refine ZZ wn rfl (bR rfl rfl) (Zk (Zc (bP _ _ (Zg fun _ bS => Zg fun _ bT => ?_)))); obtain ⟨cQ, bU, H⟩ := Zb H; obtain ⟨cR, bV, H⟩ := Zb H; obtain ⟨bW, bX, H⟩ := Zb H; refine Zl (mv S rfl fun f S => ?_); have p0s120 := r; have h69s120 := p; have bY := S.vst.le; obtain ⟨cS, cT, a3, t, S, bZ, b1, b2, T⟩ := S.lendSeg (i := 0) (A := (Za .u64)) (l := u) (ℓ' := [Loc.own (some ac) 211 1 (s) G ((List.take (0 + ((((Zj 18446744073709551616 v)).length : Int)).toNat * 1) h ++ [Value.int IntKind.u64 (b)] ++ List.drop (0 + ((((Zj 18446744073709551616 v)).length : Int)).toNat * 1 + 1) h))]) rfl rfl aG r au bh; have p := ZX a3 p; refine opc S rfl (Zn S [.slice (some ⟨a, off0, none⟩) (g) C] ZRd rfl rfl) (ZLd S.vin (show Rep.rel (Zs (Za .u64)) _ [.slice (some ⟨a, off0, none⟩) (g) C] u from T) bU) ?_; rintro _ cU f w aA ⟨cV, rfl, P⟩ S; have p := ZX aA p; have t := aA _ _ t; obtain ⟨b3, b4, b5, rfl⟩ := Z9 P; refine mv S rfl fun f S => ?_; have T := Zo aA T; have h128s137 := T; have h69s137 := p; have h133s137 := P; have h124s137 := t; have b6 := S.vst.le; obtain ⟨cW, cX, aB, ak, S, b7, b8, b9, ca⟩ := S.lendSlice (i := 0) (A := (Za .u64)) (l := (L.set ((((Zj 18446744073709551616 v)).length : Int)).toNat b)) (ℓ' := []) rfl rfl rfl p aM
  have t := aB _ _ t; refine opc S rfl (Zn S [.slice (mkA (some ac)) (s) G] ZRd rfl rfl) (ZLd S.vin (show Rep.rel (Zs (Za .u64)) _ [.slice (mkA (some ac)) (s) G] ((L.set ((((Zj 18446744073709551616 v)).length : Int)).toNat b)) from ca) bV) ?_; rintro _ cY f w al ⟨cZ, rfl, a4⟩ S; have t := al _ _ t; have ak := al _ _ ak; obtain ⟨cb, cc, cd, rfl⟩ := Z9 a4; have P := Zo (leT aB al) P; refine opc S rfl (Zn S [.slice b3 b4 b5, .slice cb cc cd] ZDf rfl rfl) (ZPf S.vin P a4 bX) ?_; rintro _ c0 f w am ⟨c3, rfl, ce⟩ S; have t := am _ _ t; have ak := am _ _ ak; obtain ⟨rfl, c4⟩ := ce; refine ov S rfl (Zi S rfl rfl Z7) fun f S => Zk ?_; obtain ⟨c5, an, S⟩ := S.takeBack (e := Loc.own (some ac) 211 1 (s) G ((List.take (0 + ((((Zj 18446744073709551616 v)).length : Int)).toNat * 1) h ++ [Value.int IntKind.u64 (b)] ++ List.drop (0 + ((((Zj 18446744073709551616 v)).length : Int)).toNat * 1 + 1) h))) (leT (leT aB al) am) rfl ak b7 b8 b6 b9; have T := Zo (leT (leT aB al) am) T; have T := Zo an h128s137; have p := ZX an h69s137; have P := Zo am P; have P := Zo an h133s137; have t := an _ _ h124s137; obtain ⟨a5, a6, S⟩ := S.takeBack (e := Loc.box a E (pre0 ++ cs0 ++ post0)) (leT (leT a3 aA) an) rfl t bZ b1 bY b2; have r := ZX a6 p0s120
  have p := ZX a6 h69s120; refine Zc (bT _ _ ?_); rcases Zv (decide (bW < (0 : Int))) with ao | ao
  · have H := Zw H ao; refine ZH S rfl ao (sr (mw S rfl fun f S => oe (wp_ret (ZN ?_)))); obtain rfl := Zf H; refine ZRk S (ZK rfl (ZE S rfl)) ⟨⟨[.bool (false)], rfl, ZAa⟩, (S.boxAt (j := 0) rfl).2, _, (S.boxAt (j := 0) rfl).1, au, r⟩
  have H := Zu H ao; refine ZG S rfl ao (wp_skip (Zc (bS _ _ (sr (mw S rfl fun f S => oe (Zg fun _ cf => sr (mv S rfl fun f S => ov S rfl (ZJ S au rfl rfl ZT) fun f S => mv S rfl fun f S => oe ?_))))))); obtain ⟨cg, ch, ci⟩ := Zb H; refine ZO (fun f w => ∃ (aC : (List Int)) (aN : List Value) (aD : Zd), aC = cg ∧ Zd.le a5 aD ∧ St 79 ⟨R, [a]⟩ o [] [Loc.box a E (pre0 ++ aN ++ post0)] aD f w ∧ Rep.rels (Za .u64) aD aN aC ∧ g = aC.length) (fun _ cj => ?_) ?_
  · have H := ch; refine wp_block ?_; obtain ⟨c6, ck, cl⟩ := Zb H; refine Zpa ck (fun cm f w => ∃ (ad : (List Int)) (ap : Int) (d : Int) (B : List Value) (ae : Zd), (ad, ap, d) = cm ∧ Zd.le a5 ae ∧ St 79 ⟨R, [a]⟩ o [(0, .slice (some ⟨a, off0, none⟩) (g) C), (7, .slice (mkA (some ac)) (s) G), (14, .int .u64 (ap)), (58, .int .i64 ((u.length : Int))), (59, .int .i64 (d))] [Loc.box a E (pre0 ++ B ++ post0), Loc.own (some ac) 211 1 (s) G ((List.take (0 + ((((Zj 18446744073709551616 v)).length : Int)).toNat * 1) h ++ [Value.int IntKind.u64 (b)] ++ List.drop (0 + ((((Zj 18446744073709551616 v)).length : Int)).toNat * 1 + 1) h))] ae f w ∧ Rep.rels (Za .u64) ae B ad ∧ g = ad.length ∧ inR .u64 ap ∧ inR .i64 d) ⟨_, _, _, cs0, _, rfl, (leR _), (S.fr' rfl), r, au, (by decide), (by decide)⟩ ?_; rintro _ f w st ⟨ad, ap, d, B, ae, hq, aO, S, af, Q, c7, c8⟩ H c9 cn co; subst hq; have p := ZX aO p; refine sr (ov S rfl (Zi S rfl rfl Z7) fun f S => oe (Zg fun _ cp => ?_)); rcases Zv (decide (d < (u.length : Int))) with aq | aq
    · have H := Zw H aq; refine ZH S rfl aq (wp_skip (Zc (cp _ _ (Zg fun _ cq => wp_block (sr (mv S rfl fun f S => mw S rfl fun f S => oe ?_)))))); obtain ⟨a7, aE, H⟩ := Zb H; obtain ⟨a8, aF, H⟩ := Zb H; obtain ⟨U, aP, H⟩ := Zb H; obtain ⟨da, ar, H⟩ := Zb H; refine Z3 (fl := #[true, true, true, true, true, true, true, true, true, true, true, false, true, true, true, true, false, false]) Z4 (by kernel_rfl) S ?_; intro ops O F w S; refine rfa O F 0 rfl rfl S (Zq S rfl) fun f S => rfa O F 1 rfl rfl S (Zq S rfl) fun f S => rfa O F 2 rfl rfl S (Zq S rfl) fun f S => rfa O F 3 rfl rfl S (Zq S rfl) fun f S => ?_; have a9 := ZGa af (Zm aE).2.1; obtain ⟨db, ba⟩ : ∃ c, (List.take (Za .u64).n (List.drop ((d).toNat * (Za .u64).n) B)) = c := ⟨_, rfl⟩; rw [ba] at a9; obtain ⟨rfl, cr⟩ := a9; refine rfa O F 4 rfl rfl S (ZU S rfl rfl ZT (Zm aE).1 (ltI Q (Zm aE).2.2.1)) fun f S => rfa O F 5 rfl rfl S (Zba S rfl Zza (Zwh S (j := 0) rfl aG (ZIb af Q) ba (ltN Q (Zm aE).2.2.2) 0 [.int .u64 (a7)] rfl zl)) fun f S => rfa O F 6 rfl rfl S (Zq S rfl) fun f S => rfa O F 7 rfl rfl S (Zq S rfl) fun f S => ?_; have bb := ZGa p (Zm aF).2.1; obtain ⟨dc, bc⟩ : ∃ c, (List.take (Za .u64).n (List.drop ((d).toNat * (Za .u64).n) (List.take (0 + ((((Zj 18446744073709551616 v)).length : Int)).toNat * 1) h ++ [Value.int IntKind.u64 (b)] ++ List.drop (0 + ((((Zj 18446744073709551616 v)).length : Int)).toNat * 1 + 1) h))) = c := ⟨_, rfl⟩
      rw [bc] at bb; obtain ⟨rfl, ct⟩ := bb; refine rfa O F 8 rfl rfl S (ZU S rfl rfl ZT (Zm aF).1 (ltI aM (Zm aF).2.2.1)) fun f S => rfa O F 9 rfl rfl S (Zba S rfl Zza (Z4c S (j := 1) rfl bc (ltN aM (Zm aF).2.2.2) 0 [.int .u64 (a8)] rfl zl)) fun f S => rfa O F 10 rfl rfl S (Zq S rfl) fun f S => go1 O F 11 (nva [5, 9, 10, 4, 8, 2, 3, 6, 7] [0, 1] O rfl rfl S (Z9e S [.int .u64 (a7), .int .u64 (a8), .int .u64 (ap)] (Z0m Z9m cr ct aP) rfl rfl) fun f S => ⟨(py S rfl rfl (Zq S rfl) (py S rfl rfl (Zq S rfl) Zp)), rfa O F 12 rfl rfl S (Zq S rfl) fun f S => rfa O F 13 rfl rfl S (ZP S rfl rfl) fun f S => rfa O F 14 rfl rfl S (ZP S rfl rfl) fun f S => ?_⟩); have bd := ZGa af (Zm ar).2.1; obtain ⟨dd, cu⟩ : ∃ c, (List.take (Za .u64).n (List.drop ((d).toNat * (Za .u64).n) B)) = c := ⟨_, rfl⟩; rw [cu] at bd; obtain ⟨rfl, de⟩ := bd; refine rfa O F 15 rfl rfl S (ZU S rfl rfl ZT (Zm ar).1 (ltI Q (Zm ar).2.2.1)) fun f S => go1 O F 16 ?_; obtain ⟨w, cv, S⟩ := ZZo S (k := (d).toNat) Zza (z := .int .u64 (U.1)) (c := [.int .u64 (U.1)]) (ZNb rfl) rfl (i := 0) rfl aG (ZIb af Q) (ltN Q (Zm ar).2.2.2) rfl (by first | rfl | simp [ZWa]); have cw : Rep.rels (Za .u64) ae (List.take (0 + (d).toNat * 1) B ++ [Value.int IntKind.u64 (U.1)] ++ List.drop (0 + (d).toNat * 1 + 1) B) (ad.set (d).toNat U.1) := ZPb af (Zm ar).2.2.2 (show Rep.rel (Za .u64) ae [.int .u64 (U.1)] _ from (Zr (ZSl aP))) rfl rfl
      have cx : g = (ad.set (d).toNat U.1).length := ZQb Q; refine nxs [0, 1, 2, 3, 4, 5, 6, 7, 8, 9, 10, 11, 12, 13, 15] [14] O rfl rfl (cv rfl rfl) (⟨(py S rfl rfl (ZP S rfl rfl) Zp), go1 O F 17 (nva [0, 1, 2, 3, 4, 5, 6, 7, 8, 9, 10, 11, 12, 13, 14, 15, 16] [] O rfl rfl S (Zla S rfl) fun f S => ⟨Zp, ZY O F (Zoa (Zc (cq _ _ ?_)))⟩)⟩); obtain ⟨df, be, H⟩ := Zb H; refine Zl (ov S rfl (Zi S rfl rfl (Zha be)) fun f S => mv S rfl fun f S => Zk ?_); obtain rfl := Zf H; refine cn _ rfl _ _ ⟨_, _, _, (List.take (0 + (d).toNat * 1) B ++ [Value.int IntKind.u64 (U.1)] ++ List.drop (0 + (d).toNat * 1 + 1) B), _, rfl, aO, (S.fr' rfl), cw, cx, (ZCn aP), (Zda be).2⟩
    have H := Zu H aq; refine ZG S rfl aq (wp_exit (ZR ?_)); obtain rfl := Zf H; have hq := co _ rfl; subst hq; have H := cl; refine ZR (Zna ?_); obtain rfl := Zf H; have S := S.reorder (ℓ' := [Loc.box a E (pre0 ++ B ++ post0)]) [0] rfl (by decide); refine Zc (cj _ _ ⟨_, B, _, rfl, (leT (leR _) aO), (S.fr' rfl), af, Q⟩)
  rintro f w ⟨aC, aN, aD, hq, dg, S, cy, cz⟩; subst hq; have H := ci; refine Zc (cf _ _ (sr (mw S rfl fun f S => oe (wp_ret ?_)))); obtain rfl := Zf H; refine ZRk S (ZK rfl (ZE S rfl)) ⟨⟨[.bool (true)], rfl, ZAa⟩, (S.boxAt (j := 0) rfl).2, _, (S.boxAt (j := 0) rfl).1, cz, cy⟩
theorem take_c {d : World} {a : Zd} (hv : VIn a d) {b off0 c e : Nat} {f : TypeId} {pre0 cs0 post0 : List Value} {u : (List Int)} (l : d.heap[b]? = some (.cells (pre0 ++ cs0 ++ post0).toArray f (0, 0))) (m : off0 = pre0.length) (n : a b = none) (o : c = u.length) (p : c ≤ e ∧ e ≤ maxLen) (g : Rep.rels (Za .u64) a cs0 u) {h : List Value} {v : Nat} (r : Rep.rel ZI a h v) {i : List Value} {q : Int} (j : Rep.rel (Za .u64) a i q) {z : Bool × (List Int)} (hm : ZZf u v q = some z) :
    RetL Tryz.prog 197 #[Value.slice (some ⟨b, off0, none⟩) c e, ZI.val h, (Za .u64).val i] d a [b] (fun y v' w' => (∃ k, y = Z5.val k ∧ Z5.rel v' k z.1) ∧ v' b = none ∧ ∃ cs, w'.heap[b]? = some (.cells (pre0 ++ cs ++ post0).toArray f (0, 0)) ∧ c = z.2.length ∧ Rep.rels (Za .u64) v' cs z.2) :=
  take_w hv l m n o p g r j (Z1q (ZOk g) j.2 hm)
end Go.Eng
