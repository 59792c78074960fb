/- Lemmas towards the statement: the engine of the walks, the functions' models, laws and walks, part 3. Conditions: as each states. -/
import Derived.Lib.AppendStr
import Derived.Lib.Builder
import Derived.Lib.UnsafeStr
import Derived.Test.YtmmnpljhffbjhaaGreatProg
import Derived.Test.YtmmnpljhffbjhaaGreatJuB
set_option linter.all false
set_option maxRecDepth 100000
namespace Go.Eng
theorem Zwk {B n : Nat} (hB : 2 ≤ B) (w : Nat) : (Zj B n).drop w = Zj B (n / B ^ w) := by
  induction w generalizing n with
  | zero => rw [List.drop_zero, Nat.pow_zero, Nat.div_one]
  | succ w ih =>
    by_cases h : n = 0
    · subst h; rw [ZWa, Nat.zero_div, ZWa]; rfl
    · rw [ZUc hB h, List.drop_succ_cons, ih, Nat.div_div_eq_div_mul, Nat.pow_succ, Nat.mul_comm B]
theorem ZZp {B n : Nat} (hB : 2 ≤ B) (w : Nat) (h : w ≤ (Zj B n).length) : val B ((Zj B n).take w) = n % B ^ w := by
  have h1 := Zzd B (Zj B n) w h; rw [Z7a hB, ZZm hB] at h1; have h2 := Nat.mod_add_div n (B ^ w); omega
theorem ZDk {B n i : Nat} (hB : 2 ≤ B) (h : i < (Zj B n).length) : idx (Zj B n) (i : Int) = some ((n / B ^ i % B : Nat) : Int) := by
  rw [Zda h]; congr 1; have h1 := List.drop_eq_getElem_cons h; rw [Zwk hB] at h1; have h2 : n / B ^ i ≠ 0 := by
    intro h2; rw [h2, ZWa] at h1
    cases h1
  rw [ZUc hB h2] at h1; exact (List.cons.inj h1).1.symm
theorem ZTo {B n L : Nat} (hB : 2 ≤ B) (h1 : B ^ L ≤ n) (h2 : n < B ^ (L + 1)) : (Zj B n).length = L + 1 := by
  have h3 := Zif hB h2; have h4 := ZZc hB n; have h5 : ¬ (Zj B n).length ≤ L := by
    intro h5; have := Nat.pow_le_pow_right (n := B) (by omega) h5; omega
  omega
theorem Z7k {n m : Nat} : decide (Z6a n m < 0) = decide (n < m) := by
  unfold Z6a; by_cases h : n < m
  · rw [if_pos h, decide_eq_true h]; rfl
  · rw [if_neg h, decide_eq_false h]; split <;> rfl
theorem Zqm {n m : Nat} : decide (0 < Z6a n m) = decide (m < n) := by
  unfold Z6a; by_cases h : n < m
  · rw [if_pos h, decide_eq_false (show ¬ m < n by omega)]; rfl
  · rw [if_neg h]; by_cases h2 : m < n
    · rw [if_pos h2, decide_eq_true h2]; rfl
    · rw [if_neg h2, decide_eq_false h2]; rfl
theorem ZHh {n k : Nat} (h : n < 4294967296 ^ k) : (Zj 4294967296 n).length ≤ k := Zif (by decide) h
theorem quo_end {a b q R rest : Nat} (hb : 0 < b) (hR : 0 < R) (h : rest < b * R) (e : a * R = rest + b * R * q) : q = a / b ∧ rest / R = a % b := by
  have h1 : a * R / (b * R) = q := by rw [e, Nat.add_mul_div_left _ _ (Nat.mul_pos hb hR), Nat.div_eq_of_lt h, Nat.zero_add]
  rw [Nat.mul_div_mul_right _ _ hR] at h1; have h2 : a * R % (b * R) = rest := by rw [e, Nat.add_mul_mod_self_left, Nat.mod_eq_of_lt h]
  rw [Nat.mul_mod_mul_right] at h2; exact ⟨h1.symm, by rw [← h2, Nat.mul_div_cancel _ hR]⟩
theorem ZWo {a b : Nat} (ha : Zab a) (hb : Zab b) (hb0 : b ≠ 0) : ZRg a b = some (a / b, a % b) := by
  unfold ZRg ZEd; rw [Ze, Z7k]; by_cases hab : a < b
  · rw [decide_eq_true hab, ZH, Nat.div_eq_of_lt hab, Nat.mod_eq_of_lt hab]
  rw [decide_eq_false hab, ZG]; unfold Zab at ha hb; have hLpos := List.length_pos_iff.2 ((Z2c (n := b) (B := 4294967296) (by decide)).2 hb0); by_cases hL1 : (Zj 4294967296 b).length = 1
  · rw [hL1]; have hb1 : b < 4294967296 := by
      have := ZZc (B := 4294967296) (by decide) b; rw [hL1] at this; simpa using this
    rw [show (((1 : Nat) : Int) == 1) = true from rfl, ZH, ZOk (by decide) hb0 hb1, Ze]; unfold ZXe ZCd; rw [if_pos ⟨by unfold ZPa; omega, by omega⟩, Ze]; simp only [Int.toNat_natCast]; have hm := Nat.mod_lt a (Nat.pos_of_ne_zero hb0); rw [ZJb (by omega), Int.toNat_natCast]; rfl
  have e1 : (((Zj 4294967296 b).length : Int) == 1) = false := beq_false_of_ne (by omega); rw [e1, ZG]; obtain ⟨l, hl⟩ : ∃ l, (Zj 4294967296 b).length = l + 1 := ⟨(Zj 4294967296 b).length - 1, by omega⟩; have hbge : 4294967296 ^ l ≤ b := by have := ZHg (B := 4294967296) (by decide) hb0; rw [hl] at this; simpa using this
  have hblt : b < 4294967296 ^ (l + 1) := by have := ZZc (B := 4294967296) (by decide) b; rwa [hl] at this
  have hp : ∀ k, (4294967296 : Nat) ^ k = 2 ^ (32 * k) := fun k => by rw [Nat.pow_mul]
  obtain ⟨c, hc⟩ := Ztf hb0; obtain ⟨hc1, hc2⟩ := (ZGe hb0).1 hc; have hcl : 32 * l ≤ c := by
    have h1 : 2 ^ (32 * l) < 2 ^ (c + 1) := by rw [← hp]; omega
    have := (Nat.pow_lt_pow_iff_right (by omega : 1 < 2)).1 h1; omega
  have hcu : c + 1 ≤ 32 * (l + 1) := by
    have h1 : 2 ^ c < 2 ^ (32 * (l + 1)) := by rw [← hp]; omega
    have := (Nat.pow_lt_pow_iff_right (by omega : 1 < 2)).1 h1; omega
  obtain ⟨up, hup⟩ : ∃ up, up + (c + 1) = 32 * (l + 1) := ⟨32 * (l + 1) - (c + 1), by omega⟩; have hup31 : up ≤ 31 := by omega
  have hR : 0 < 2 ^ up := Nat.pow_pos (by omega); have hR31 : 2 ^ up ≤ 2147483648 := Nat.le_trans (Nat.pow_le_pow_right (by omega) hup31) (by decide); have c1 : chk .i64 (32 * ((l + 1 : Nat) : Int)) = some ((32 * (l + 1) : Nat) : Int) := by rw [show (32 * ((l + 1 : Nat) : Int)) = ((32 * (l + 1) : Nat) : Int) by omega, Zeb (by omega)]
  have c2 : Zog b = some (((c + 1 : Nat)) : Int) := by unfold Zog; rw [if_pos (by unfold ZPa; omega), hc]
  have c3 : chk .i64 (((32 * (l + 1) : Nat) : Int) - ((c + 1 : Nat) : Int)) = some (up : Int) := by rw [show ((32 * (l + 1) : Nat) : Int) - ((c + 1 : Nat) : Int) = (up : Int) by omega, Zeb (by omega)]
  have c4 : Zee b (up : Int) = some (b * 2 ^ up) := by unfold Zee; rw [if_pos ⟨by unfold ZPa; omega, by omega, by omega⟩, Int.toNat_natCast]
  have c5 : Zee a (up : Int) = some (a * 2 ^ up) := by unfold Zee; rw [if_pos ⟨by unfold ZPa; omega, by omega, by omega⟩, Int.toNat_natCast]
  rw [hl, c1, Ze, c2, Ze, c3, Ze, c4, Ze, c5, Ze]; have hv1 : 2 ^ (32 * l + 31) ≤ b * 2 ^ up := by
    have h1 := Nat.mul_le_mul_right (2 ^ up) hc1; rw [← Nat.pow_add] at h1; have h2 : c + up = 32 * l + 31 := by omega
    rw [h2] at h1; exact h1
  have hv2 : b * 2 ^ up < 4294967296 ^ (l + 1) := by
    have h1 := Nat.mul_lt_mul_of_pos_right hc2 hR; rw [← Nat.pow_add] at h1; have h2 : c + 1 + up = 32 * (l + 1) := by omega
    rw [h2, ← hp] at h1; exact h1
  have hvge : 4294967296 ^ l * 2147483648 ≤ b * 2 ^ up := by
    rw [hp, show (2147483648 : Nat) = 2 ^ 31 from rfl, ← Nat.pow_add]; exact hv1
  have hdm : ∀ n q : Nat, q ≠ 0 → n = q * (n / q) + n % q ∧ n % q < q := fun n q h => ⟨(Nat.div_add_mod n q).symm, Nat.mod_lt _ (by omega)⟩; obtain ⟨v, hv⟩ : ∃ v, v = b * 2 ^ up := ⟨_, rfl⟩; rw [← hv] at hv1 hv2 hvge ⊢; have hBl : 0 < 4294967296 ^ l := Nat.pow_pos (by omega); have hlv : (Zj 4294967296 v).length = l + 1 := ZTo (by decide) (by omega) hv2; have hv0 : 0 < v := by omega
  obtain ⟨M, hM⟩ : ∃ M, M = (Zj 4294967296 a).length := ⟨_, rfl⟩; have hML : l + 1 ≤ M := by rw [hM, ← hl]; exact Zld (by decide) (by omega)
  have haM : a < 4294967296 ^ M := by rw [hM]; exact ZZc (by decide) a
  rw [hlv, ← hM]; rw [← hM] at ha; have c6 : chk .i64 ((M : Int) - ((l + 1 : Nat) : Int)) = some ((M - (l + 1) : Nat) : Int) := by rw [show (M : Int) - ((l + 1 : Nat) : Int) = ((M - (l + 1) : Nat) : Int) by omega, Zeb (by omega)]
  obtain ⟨K, hK⟩ : ∃ K, K + (l + 1) = M + 2 := ⟨M - (l + 1) + 2, by omega⟩; have c7 : chk .i64 (((M - (l + 1) : Nat) : Int) + 2) = some (K : Int) := by rw [show ((M - (l + 1) : Nat) : Int) + 2 = (K : Int) by omega, Zeb (by omega)]
  obtain ⟨u, hu⟩ := Ztd (b := 4) (l := (K : Int)) (c := (K : Int)) (by omega) (by omega) (by omega) (by omega); rw [c6, Ze, c7, Ze, hu, Ze, Int.toNat_natCast, List.length_replicate, Zwa (by omega) (by omega), Ze, ZSa]; obtain ⟨ra, hra⟩ : ∃ ra, ra = a * 2 ^ up := ⟨_, rfl⟩; rw [← hra]; have hraM : ra < 4294967296 ^ (M + 1) := by
    rw [hra, Nat.pow_succ]; exact Nat.mul_lt_mul'' haM (by omega)
  have hra0 : ra < v * 4294967296 ^ K := by
    have h1 : 4294967296 ^ l * 2147483648 * 4294967296 ^ K ≤ v * 4294967296 ^ K := Nat.mul_le_mul_right _ hvge; have h2 : 4294967296 ^ l * 2147483648 * 4294967296 ^ K = 4294967296 ^ (M + 1) * 2147483648 := by
      rw [Nat.mul_right_comm, ← Nat.pow_add, show l + K = M + 1 by omega]
    omega
  refine Zbb (fun s : Nat × (List Int) × Int => ∃ k : Nat, s.2.2 = (k : Int) - 1 ∧ k ≤ K ∧ s.2.1.length = K ∧ Dig 4294967296 s.2.1 ∧ (∀ i (h : i < s.2.1.length), i < k → s.2.1[i] = 0) ∧
      s.1 < v * 4294967296 ^ k ∧ s.1 ≤ ra ∧ ra = s.1 + v * (4294967296 ^ k * val 4294967296 (s.2.1.drop k))) (fun s => (s.2.2 + 1).toNat)
    (fun r : Nat × List Int => r.1 < v ∧ r.1 ≤ ra ∧ ra = r.1 + v * val 4294967296 r.2) ⟨K, rfl, by omega, by simp, Dig.replicate _ (by omega), by intro i h _; simp, hra0, Nat.le_refl _, by simp [List.drop_eq_nil_of_le, val]⟩ (ZJa (by simp; omega)) ?_ ?_
  · rintro ⟨rest, out, j⟩ ⟨k, hj, hk, ho, hd, hz, hlt, hle, he⟩; simp only at hj ho hd hz hlt hle he ⊢; subst hj; by_cases hk0 : k = 0
    · right; subst hk0; rw [show decide ((0 : Int) ≤ ((0 : Nat) : Int) - 1) = false from rfl, ZG]; refine ⟨_, rfl, by simpa using hlt, hle, by simpa using he⟩
    left; obtain ⟨j, rfl⟩ : ∃ j, k = j + 1 := ⟨k - 1, by omega⟩; have ej : ((j + 1 : Nat) : Int) - 1 = (j : Int) := by omega
    rw [ej, decide_eq_true (show (0 : Int) ≤ (j : Int) by omega), ZH]; have hjo : j < out.length := by omega
    have cA : ifb (decide ((j : Int) < ((Zj 4294967296 rest).length : Int))) (bnd (ZMb (Zj 4294967296 rest) (j : Int) ((Zj 4294967296 rest).length : Int)) fun y654 => some y654) (some ([] : List Int)) = some (Zj 4294967296 (rest / 4294967296 ^ j)) := by
      rw [← Zwk (by decide)]; by_cases h : j < (Zj 4294967296 rest).length
      · rw [decide_eq_true (by omega), ZH]; have : ZMb (Zj 4294967296 rest) (j : Int) ((Zj 4294967296 rest).length : Int) = some ((Zj 4294967296 rest).drop j) := by
          unfold ZMb; rw [if_pos ⟨by omega, by omega, by omega⟩]; simp
        rw [this, Ze]
      · rw [decide_eq_false (by omega), ZG, List.drop_eq_nil_of_le (by omega)]
    rw [cA, Ze, ZSl, Ze, Ze, Z7k]; obtain ⟨p, hpp⟩ : ∃ p, p = rest / 4294967296 ^ j := ⟨_, rfl⟩; rw [← hpp]; have hBj : 0 < 4294967296 ^ j := Nat.pow_pos (by omega); have hrp := Nat.div_add_mod rest (4294967296 ^ j); have hrm := Nat.mod_lt rest hBj; rw [← hpp] at hrp; have hpv : p < v * 4294967296 := by
      rw [hpp, Nat.div_lt_iff_lt_mul hBj]; rw [Nat.pow_succ] at hlt; rw [Nat.mul_assoc, Nat.mul_comm 4294967296]; exact hlt
    have cz : out[j] = 0 := hz j hjo (by omega); have hdrop : val 4294967296 (out.drop j) = 4294967296 * val 4294967296 (out.drop (j + 1)) := by rw [ZFc hjo, cz]; simp
    have cend : chk .i64 ((j : Int) - 1) = some ((j : Int) - 1) := Zwa (by omega) (by omega); by_cases hpl : p < v
    · rw [decide_eq_true hpl, ZH, Ze]; simp only; rw [cend, Ze]; refine ⟨_, rfl, ⟨j, rfl, by omega, ho, hd, fun i h hi => hz i h (by omega), ?_, hle, ?_⟩, by simp⟩
      · have := Nat.mul_le_mul_left (4294967296 ^ j) (show p + 1 ≤ v by omega); rw [Nat.mul_add, Nat.mul_comm (4294967296 ^ j) v] at this; simp only; omega
      · simp only; rw [hdrop, he, Nat.pow_succ]; grind
    rw [decide_eq_false hpl, ZG]; have hp1 : p < 4294967296 ^ (l + 1 + 1) := by
      rw [Nat.pow_succ]; exact Nat.lt_trans hpv (Nat.mul_lt_mul_of_pos_right hv2 (by omega))
    have hplen1 := ZHh hp1; have hplen0 : l + 1 ≤ (Zj 4294967296 p).length := by rw [← hlv]; exact Zld (by decide) (by omega)
    have cl : chk .i64 (((l + 1 : Nat) : Int) - 1) = some (l : Int) := by rw [show ((l + 1 : Nat) : Int) - 1 = (l : Int) by omega, Zeb (by omega)]
    rw [cl, Ze, ZDk (by decide) (by omega : l < (Zj 4294967296 p).length), Ze]; obtain ⟨h, hh⟩ : ∃ h, h = p / 4294967296 ^ l := ⟨_, rfl⟩; have hh64 : h < 18446744073709551616 := by
      rw [hh]; apply Nat.div_lt_of_lt_mul; rw [Nat.pow_succ, Nat.pow_succ] at hp1; rw [show (18446744073709551616 : Nat) = 4294967296 * 4294967296 from rfl, ← Nat.mul_assoc]; exact hp1
    rw [← hh]; have cH : ifb (decide (((l + 1 : Nat) : Int) < ((Zj 4294967296 p).length : Int))) (bnd (idx (Zj 4294967296 p) ((l + 1 : Nat) : Int)) fun y641 => bnd (Z3b .u64 (IntKind.u64.wrap y641) 32) fun y647 => some (orI .u64 (IntKind.u64.wrap ((h % 4294967296 : Nat) : Int)) y647)) (some (IntKind.u64.wrap ((h % 4294967296 : Nat) : Int))) = some (h : Int) := by
      rw [ZJb (by omega)]; have hhd : p / 4294967296 ^ (l + 1) = h / 4294967296 := by rw [hh, Nat.div_div_eq_div_mul, Nat.pow_succ]
      by_cases hq : l + 1 < (Zj 4294967296 p).length
      · rw [decide_eq_true (by omega), ZH, ZDk (by decide) hq, Ze, hhd, ZJb (by omega)]; have hx : h / 4294967296 % 4294967296 = h / 4294967296 := Nat.mod_eq_of_lt (by omega); rw [hx]; have e1 : Z3b .u64 ((h / 4294967296 : Nat) : Int) 32 = some ((h / 4294967296 * 2 ^ 32 : Nat) : Int) := by
          have := Zce (x := h / 4294967296) (k := 32) (by omega); rw [Nat.mod_eq_of_lt (by omega)] at this; exact this
        have e2 : orI .u64 ((h % 4294967296 : Nat) : Int) ((h / 4294967296 * 2 ^ 32 : Nat) : Int) = (h : Int) := by
          have hc : orI .u64 ((h % 4294967296 : Nat) : Int) ((h / 4294967296 * 2 ^ 32 : Nat) : Int) = orI .u64 ((h / 4294967296 * 2 ^ 32 : Nat) : Int) ((h % 4294967296 : Nat) : Int) := by unfold orI; rw [BitVec.or_comm]
          rw [hc, Zhf (k := 32) (by omega) (by omega)]; exact congrArg (fun q : Nat => (q : Int)) (by omega)
        rw [e1, Ze, e2]
      · rw [decide_eq_false (by omega), ZG]; have h0 : p / 4294967296 ^ (l + 1) = 0 := Nat.div_eq_of_lt (by
          have := ZZc (B := 4294967296) (by decide) p; have e : (Zj 4294967296 p).length = l + 1 := by omega
          rwa [e] at this)
        rw [hhd] at h0; exact congrArg (fun q : Nat => some (q : Int)) (by omega)
    rw [cH, Ze, Ze, ZDk (by decide) (by omega : l < (Zj 4294967296 v).length), Ze]; obtain ⟨t, ht⟩ : ∃ t, t = v / 4294967296 ^ l := ⟨_, rfl⟩; have ht1 : 2147483648 ≤ t := by rw [ht, Nat.le_div_iff_mul_le hBl, Nat.mul_comm]; exact hvge
    have ht2 : t < 4294967296 := by rw [ht]; apply Nat.div_lt_of_lt_mul; rw [Nat.pow_succ] at hv2; exact hv2
    rw [← ht, Nat.mod_eq_of_lt ht2, ZJb (by omega), ZPf (by omega) hh64, Ze]; have hq0 : p / v ≤ h / t := by
      rw [hh, ht, Nat.div_div_eq_div_mul]; apply Nat.div_le_div_left
      · exact Nat.mul_div_le v (4294967296 ^ l)
      · exact Nat.mul_pos hBl (by rw [← ht]; omega)
    have hqB : p / v < 4294967296 := (Nat.div_lt_iff_lt_mul hv0).2 (by rw [Nat.mul_comm]; exact hpv); obtain ⟨q, hq⟩ : ∃ q, q = p / v := ⟨_, rfl⟩; rw [← hq] at hq0 hqB; have hpq := Nat.div_add_mod p v; have hpr := Nat.mod_lt p hv0; rw [← hq] at hpq; obtain ⟨g, hg1, hg2, cG⟩ : ∃ g : Nat, q ≤ g ∧ g < 4294967296 ∧ ifb (decide ((4294967295 : Int) < ((h / t : Nat) : Int))) (some (4294967295 : Int)) (some ((h / t : Nat) : Int)) = some (g : Int) := by
      by_cases hx : 4294967295 < h / t
      · exact ⟨4294967295, by omega, by omega, by rw [decide_eq_true (by omega), ZH]; rfl⟩
      · exact ⟨h / t, hq0, by omega, by rw [decide_eq_false (by omega), ZG]⟩
    have okp : ∀ n, n < 4294967296 ^ (l + 1 + 1) → ZPa n := fun n hn => by unfold ZPa; have := ZHh hn; omega
    have hvg : ∀ x, x < 4294967296 → v * x < 4294967296 ^ (l + 1 + 1) := fun x hx => by rw [Nat.pow_succ]; exact Nat.mul_lt_mul'' hv2 hx
    have okg : ZPa g := by
      unfold ZPa; have := ZHh (n := g) (k := 1) (by simpa using hg2); omega
    have okv : ZPa v := by unfold ZPa; omega
    have cN : ZCd (g : Int) = some g := by unfold ZCd; rw [Int.toNat_natCast]
    have cP : Zdb v g = some (v * g) := by unfold Zdb; rw [if_pos ⟨okv, okg⟩]
    rw [cG, Ze, cN, Ze, cP, Ze, ZSa, ZSa]; refine ZTk (s := ((g : Int), v * g)) (fun s : Int × Nat => ∃ x : Nat, s.1 = (x : Int) ∧ s.2 = v * x ∧ q ≤ x ∧ x < 4294967296) (fun s => s.1.toNat) (fun r : Int × Nat => r = ((q : Int), v * q)) ⟨g, rfl, rfl, hg1, hg2⟩ (ZJa (by simp; omega)) ?_ ?_
    · rintro ⟨x, y⟩ ⟨x, rfl, rfl, hx1, hx2⟩; simp only; rw [Ze, Ze, Zqm]; by_cases hxp : p < v * x
      · left; have hx0 : q < x := by
          rcases Nat.lt_or_ge q x with h' | h'
          · exact h'
          · have := Nat.mul_le_mul_left v h'; omega
        have cD : ZCc (v * x) v = some (v * (x - 1)) := by
          unfold ZCc; have hle : v * 1 ≤ v * x := Nat.mul_le_mul_left v (by omega); rw [if_pos ⟨okp _ (hvg x hx2), by omega⟩, Nat.mul_sub, Nat.mul_one]
        have cW : IntKind.u64.wrap ((x : Int) - 1) = ((x - 1 : Nat) : Int) := by rw [show (x : Int) - 1 = ((x - 1 : Nat) : Int) by omega, ZJb (by omega)]
        rw [decide_eq_true hxp, ZH, cD, Ze, cW]; exact ⟨_, rfl, ⟨x - 1, rfl, rfl, by omega, by omega⟩, by simp; omega⟩
      · right; have hxq : x = q := by
          have h1 : x ≤ p / v := (Nat.le_div_iff_mul_le hv0).2 (by rw [Nat.mul_comm]; omega); omega
        subst hxq; rw [decide_eq_false hxp, ZG]; exact ⟨_, rfl, rfl⟩
    · rintro _ rfl; rw [Ze]; simp only; have hjr : j < (Zj 4294967296 rest).length := by
        rcases Nat.lt_or_ge j (Zj 4294967296 rest).length with h' | h'
        · exact h'
        · have h1 : (Zj 4294967296 rest).drop j = [] := List.drop_eq_nil_of_le h'; rw [Zwk (by decide), ← hpp] at h1; have := (ZXf (B := 4294967296) (by decide)).1 h1; omega
      have hrl : (Zj 4294967296 rest).length ≤ M + 1 := by
        have := Zld (B := 4294967296) (by decide) hle; have := ZHh hraM; omega
      have cC : ZMb (Zj 4294967296 rest) 0 (j : Int) = some ((Zj 4294967296 rest).take j) := by
        unfold ZMb; rw [if_pos ⟨by omega, by omega, by omega⟩]; simp
      obtain ⟨r, hr⟩ : ∃ r, r = p % v := ⟨_, rfl⟩; rw [← hr] at hpq hpr; have cD : ZCc p (v * q) = some r := by
        unfold ZCc; rw [if_pos ⟨okp p hp1, by omega⟩]; exact congrArg some (by omega)
      have htl : ((Zj 4294967296 rest).take j).length = j := by rw [List.length_take]; omega
      have hrlen : (Zj 4294967296 r).length ≤ l + 1 := by rw [← hlv]; exact Zld (by decide) (by omega)
      rw [Zda hjo, Ze, cC, Ze, Zte (by simp only [List.nil_append, htl]; omega), Ze, Ze, cD, Ze, Zte (by simp only [List.nil_append, List.length_append, htl]; omega), Ze]; unfold ZWb; rw [Ze, Ze, List.nil_append, Zqd, htl, Z7a (by decide), ZZp (by decide) _ (by omega)]; have cW : IntKind.u32.wrap (q : Int) = (q : Int) := by rw [wrap_u32]; omega
      rw [cW, Int.toNat_natCast]; simp only; rw [cend, Ze]; have hnew : rest % 4294967296 ^ j + 4294967296 ^ j * r + v * (4294967296 ^ j * q) = rest := by
        rw [← hrp, ← hpq]; grind
      refine ⟨_, rfl, ⟨j, rfl, by omega, by simp [ho], hd.set _ (by omega), fun i hi hij => ?_, ?_, ?_, ?_⟩, by simp⟩
      · simp only at hi ⊢; rw [List.getElem_set_ne (by omega)]; exact hz i (by simpa using hi) (by omega)
      · simp only; have := Nat.mul_le_mul_left (4294967296 ^ j) (show r + 1 ≤ v by omega); rw [Nat.mul_add, Nat.mul_comm (4294967296 ^ j) v] at this; omega
      · simp only; omega
      · simp only; have e6 : (out.set j (q : Int)).drop j = (q : Int) :: out.drop (j + 1) := by
          rw [List.drop_eq_getElem_cons (by simpa using hjo), List.getElem_set_self, List.drop_set_of_lt (by omega)]
        rw [e6]; simp only [val, Int.toNat_natCast]; rw [he]
        conv => lhs; rw [← hnew]
        rw [Nat.pow_succ]; grind
  · rintro ⟨rest, out⟩ ⟨h1, h2, h3⟩; simp only at h1 h2 h3 ⊢; rw [Ze]; simp only; unfold ZWb; have hrl : (Zj 4294967296 rest).length ≤ M + 1 := by
      have := Zld (B := 4294967296) (by decide) h2; have := ZHh hraM; omega
    have cL : ZWf rest (up : Int) = some (rest / 2 ^ up) := by unfold ZWf; rw [if_pos ⟨by unfold ZPa; omega, by omega⟩, Int.toNat_natCast]
    rw [Ze, cL, Ze]; rw [hv] at h1 h3; rw [hra] at h3; obtain ⟨e1, e2⟩ := quo_end (Nat.pos_of_ne_zero hb0) hR h1 h3; rw [e1, e2]
theorem ZNp {n m : Nat} {z : Nat × Nat} (h : Zod n m = some z) : ZRg n m = some z := by
  unfold Zod at h; split at h
  · rename_i hh; rw [ZWo hh.1 hh.2.1 hh.2.2, h]
  · cases h
noncomputable def Zbh (a : Nat) (b : Nat) : Option (Nat) :=
 bnd (bnd (ZZ (fun s : Nat × Nat => match s with
 | (d, c) =>
 (ifb (decide ((0 : Int) < (((Zj 4294967296 c)).length : Int)))
 (bnd (Zod d c) fun e =>
 some (.inl ((c, e.2))))
 (some (.inr d)))) Zba ((a, b)))
 (fun (f : Nat) =>
 (some f)))
 (fun (g : Nat) =>
 (some g))
noncomputable def ZQh (s : Bool) (n : Nat) (d : Nat) : Option (Rat) :=
 ifb (((((Zj 4294967296 n)).length : Int)) == ((0 : Int)))
 (bnd (ZXc ([(1 : Int)])) fun b =>
 bnd (ZFe false ((0 : Nat)) b) fun c =>
 some c)
 (bnd (rgcF n d) fun a =>
 bnd (Zod n a) fun e =>
 bnd (Zod d a) fun f =>
 bnd (ZFe s e.1 f.1) fun g =>
 some g)
theorem Zsk {n m : Nat} (h : n ≤ m) (hm : Zab m) : Zab n := by
  have := Zld (B := 4294967296) (by decide) h; unfold Zab at *; omega
theorem ZVk {n : Nat} (h : Zab n) : bl n ≤ 2199023255552 := by
  unfold Zab at h; have h1 := ZZc (B := 4294967296) (by decide) n; have h2 : 4294967296 ^ (Zj 4294967296 n).length = 2 ^ (32 * (Zj 4294967296 n).length) := by rw [Nat.pow_mul]
  rw [h2] at h1; have := Zqc h1; omega
theorem sm32_of {n k : Nat} (h : bl n ≤ 32 * k) (hk : k ≤ 68719476736) : Zab n := by
  unfold Zab; refine Nat.le_trans (Zif (B := 4294967296) (k := k) (by decide) ?_) hk; have h1 := ZRe n; have h2 : 4294967296 ^ k = 2 ^ (32 * k) := by rw [Nat.pow_mul]
  rw [h2]; exact Nat.lt_of_lt_of_le h1 (Nat.pow_le_pow_right (by omega) h)
theorem ZYm {n : Nat} (h : bl n ≤ 2199023255552) : Zab n := sm32_of (k := (bl n + 31) / 32) (by omega) (by omega)
theorem rgcd_eq {n m : Nat} (hn : Zab n) (hm : Zab m) : Zbh n m = some (Nat.gcd n m) := by
  unfold Zbh; rw [ZSa]; refine Zbb (fun s : Nat × Nat => Zab s.1 ∧ Zab s.2 ∧ Nat.gcd s.1 s.2 = Nat.gcd n m) (fun s => 2 * (bl s.1 + bl s.2) + if s.1 < s.2 then 1 else 0) (fun r : Nat => r = Nat.gcd n m) ⟨hn, hm, rfl⟩
    (ZJa (by have := ZVk hn; have := ZVk hm; simp only; split <;> omega)) ?_ ?_
  · rintro ⟨a, b⟩ ⟨ha, hb, hg⟩; simp only at ha hb hg ⊢; rw [Z1k]; by_cases h0 : b = 0
    · right; subst h0; exact ⟨_, rfl, by rw [← hg, Nat.gcd_zero_right]⟩
    · left; have h1 : Zod a b = some (a / b, a % b) := by unfold Zod; rw [if_pos ⟨ha, hb, h0⟩]
      have hlt : a % b < b := Nat.mod_lt _ (by omega); rw [decide_eq_true h0, ZH, h1, Ze]; refine ⟨_, rfl, ⟨hb, Zsk (Nat.le_of_lt hlt) hb, ?_⟩, ?_⟩
      · rw [← hg]; simp only; rw [Nat.gcd_comm b, ← Nat.gcd_rec, Nat.gcd_comm]
      · simp only; rw [if_neg (by omega)]; by_cases hab : a < b
        · rw [if_pos hab, Nat.mod_eq_of_lt hab]; omega
        · have := Zkm (a := a) (b := b) (by omega) h0; rw [if_neg hab]; omega
  · rintro r rfl; rw [Ze]
theorem rgcF_eq {n m z : Nat} (h : rgcF n m = some z) : Zbh n m = some z := by
  unfold rgcF at h; split at h
  · rename_i hh; rw [rgcd_eq hh.1 hh.2, h]
  · cases h
theorem Zao {s : Bool} {n d : Nat} (hn : n ≠ 0) (hd : d ≠ 0) : decide ((mkRat (sgn s n) d).num < 0) = s ∧ (mkRat (sgn s n) d).num.natAbs = n / Nat.gcd n d ∧ (mkRat (sgn s n) d).den = d / Nat.gcd n d := by
  have e0 : (sgn s n).natAbs = n := by unfold sgn; split <;> omega
  have hg : 0 < Nat.gcd n d := Nat.gcd_pos_of_pos_left _ (Nat.pos_of_ne_zero hn); have hnum : (mkRat (sgn s n) d).num = sgn s n / (Nat.gcd n d : Int) := by rw [Rat.num_mkRat, Nat.gcd_comm, e0]; simp [hd, Nat.gcd_comm]
  have hden : (mkRat (sgn s n) d).den = d / Nat.gcd n d := by rw [Rat.den_mkRat, e0]; simp [hd, Nat.gcd_comm]
  obtain ⟨k, hk⟩ := Nat.gcd_dvd_left n d; have hk0 : k ≠ 0 := by rintro rfl; simp at hk; exact hn hk
  have hq : sgn s n / (Nat.gcd n d : Int) = sgn s k := by
    have : sgn s n = sgn s k * (Nat.gcd n d : Int) := by
      unfold sgn
      conv => lhs; rw [hk]
      split <;> grind
    rw [this, Int.mul_ediv_cancel _ (by omega)]
  have hnk : n / Nat.gcd n d = k := Nat.div_eq_of_eq_mul_right hg hk; rw [hnum, hq, hnk]; refine ⟨?_, by unfold sgn; split <;> omega, hden⟩
  cases s
  · apply decide_eq_false; simp only [sgn]; simp
  · apply decide_eq_true; simp only [sgn]; simp; omega
theorem ZIn {s : Bool} {n d : Nat} (hn : n ≠ 0) (hd : d ≠ 0) : ZFe s (n / Nat.gcd n d) (d / Nat.gcd n d) = some (mkRat (sgn s n) d) := by
  obtain ⟨h1, h2, h3⟩ := Zao (s := s) hn hd; have := Z3l (mkRat (sgn s n) d); rw [h1, h2, h3] at this; exact this
theorem ZGn : ZFe false 0 1 = some 0 := Z3l 0
theorem ZUp {s : Bool} {n d : Nat} {z : Rat} (h : ZYb s n d = some z) : ZQh s n d = some z := by
  unfold ZYb at h; split at h
  · rename_i hh; obtain ⟨h1, h2, h3⟩ := hh
    cases h
    unfold ZQh; rw [ZJi]; by_cases h0 : n = 0
    · subst h0; rw [decide_eq_true rfl, ZH, ZUj, Ze, ZGn, Ze]; have e : sgn s 0 = 0 := by cases s <;> rfl
      rw [e, Rat.zero_mkRat]
    · have e1 : rgcF n d = some (Nat.gcd n d) := by unfold rgcF; rw [if_pos ⟨h1, h2⟩]
      have hg : Nat.gcd n d ≠ 0 := by have := Nat.gcd_pos_of_pos_left d (Nat.pos_of_ne_zero h0); omega
      have okg : Zab (Nat.gcd n d) := Zsk (Nat.gcd_le_left _ (Nat.pos_of_ne_zero h0)) h1; have e2 : Zod n (Nat.gcd n d) = some (n / Nat.gcd n d, n % Nat.gcd n d) := by unfold Zod; rw [if_pos ⟨h1, okg, hg⟩]
      have e3 : Zod d (Nat.gcd n d) = some (d / Nat.gcd n d, d % Nat.gcd n d) := by unfold Zod; rw [if_pos ⟨h2, okg, hg⟩]
      rw [decide_eq_false h0, ZG, e1, Ze, e2, Ze, e3, Ze, ZIn h0 h3, Ze]
  · cases h
noncomputable def ZCg (n : Int) : Option (Rat) :=
 ifb (decide (n < (0 : Int)))
 (bnd (ZCd (IntKind.u64.wrap (-(IntKind.u64.wrap n)))) fun a =>
 bnd (ZXc ([(1 : Int)])) fun b =>
 bnd (ZYb true a b) fun c =>
 some c)
 (bnd (ZCd (IntKind.u64.wrap n)) fun d =>
 bnd (ZXc ([(1 : Int)])) fun e =>
 bnd (ZYb false d e) fun f =>
 some f)
noncomputable def Zbj (n : Int) (d : Int) : Option (Rat × Int) :=
 ifb (d == ((0 : Int)))
 (bnd (ZQc ((0 : Int))) fun c =>
 some ((c, (3 : Int))))
 (bnd (ZQc n) fun a =>
 bnd (ZQc d) fun b =>
 bnd (ZYb ((decide (a.num < 0)) != (decide (b.num < 0))) a.num.natAbs b.num.natAbs) fun e =>
 some ((e, (0 : Int))))
noncomputable def ZVi (r : (Int × Int)) : Option (Rat) :=
 ifb (r.2 == ((0 : Int)))
 (bnd (ZQc r.1) fun a =>
 some a)
 (bnd (Zmh r.1 r.2) fun b =>
 some b.1)
noncomputable def Zhi (x : Rat) : Option (Int) :=
 bnd (Z5c x) fun a =>
 ifb (a)
 (some ((0 : Int)))
 (ifb (decide (x.num < 0))
 (some ((-1 : Int)))
 (some ((1 : Int))))
theorem Z2f {n : Nat} (h : n ≤ 18446744073709551616) : Zab n := ZYm (Nat.le_trans (Zqc (show n < 2 ^ 65 by omega)) (by decide))
theorem Z6m (n : Int) : mkRat n 1 = (n : Rat) := by
  have := Rat.mkRat_self (n : Rat)
  simpa using this
theorem ZMq {n : Int} (h1 : -9223372036854775808 ≤ n) (h2 : n ≤ 9223372036854775807) : ZCg n = some (n : Rat) := by
  unfold ZCg; rw [ZUj]; unfold ZCd ZYb; by_cases h : n < 0
  · obtain ⟨k, rfl⟩ : ∃ k : Nat, n = -(k : Int) := ⟨n.natAbs, by omega⟩; have e1 : IntKind.u64.wrap (-(IntKind.u64.wrap (-(k : Int)))) = (k : Int) := by rw [wrap_u64, wrap_u64]; omega
    rw [decide_eq_true h, ZH, e1, Ze, Ze, Int.toNat_natCast, if_pos ⟨Z2f (by omega), Z2f (by omega), by omega⟩, Ze, Z6m]; rfl
  · obtain ⟨k, rfl⟩ := Int.eq_ofNat_of_zero_le (show 0 ≤ n by omega); rw [decide_eq_false h, ZG, ZJb (by omega), Ze, Ze, Int.toNat_natCast, if_pos ⟨Z2f (by omega), Z2f (by omega), by omega⟩, Ze, Z6m]; rfl
theorem Zdp {n : Int} {z : Rat} (hn : inR .i64 n) (h : ZQc n = some z) : ZCg n = some z := by
  have := Z7b.1 hn; unfold ZQc at h; rw [ZMq (by omega) (by omega), h]
theorem Zjp (n m : Int) : sgn (decide (n < 0) != decide (m < 0)) n.natAbs = if m < 0 then -n else n := by
  have := Z3k n m; unfold Zlb at this; exact Option.some.inj this
theorem Z8q {n d : Int} {z : Rat × Int} (hn : inR .i64 n) (hd : inR .i64 d) (h : Zmh n d = some z) : Zbj n d = some z := by
  have hn := Z7b.1 hn; have hd := Z7b.1 hd; unfold Zmh at h
  cases h
  unfold Zbj ZQc; by_cases h0 : d = 0
  · subst h0; rfl
  · have e0 : (d == 0) = false := by simp [h0]
    rw [e0, ZG, if_neg h0, Ze, Ze]; unfold ZYb; rw [Rat.num_intCast, Rat.num_intCast, if_pos ⟨Z2f (by omega), Z2f (by omega), by omega⟩, Ze, Zjp, ← Z6h]
theorem rofF_eq {r : Int × Int} {z : Rat} (h : ZTc r = some z) : ZVi r = some z := by
  unfold ZTc at h
  cases h
  unfold ZVi Znb ZQc Zmh; by_cases h0 : r.2 = 0
  · rw [if_pos h0, h0]; rfl
  · have : (r.2 == 0) = false := by simp [h0]
    rw [this, ZG, Ze, if_neg h0, if_neg h0]
theorem Zip {x : Rat} {z : Int} (h : Zrc x = some z) : Zhi x = some z := by
  unfold Zrc at h
  cases h
  unfold Zhi Z5c; rw [Ze]; by_cases h0 : x = 0
  · subst h0; rfl
  · have := Ztj h0; rw [decide_eq_false h0, ZG]; by_cases h1 : x.num < 0
    · rw [decide_eq_true h1, ZH, Int.sign_eq_neg_one_of_neg h1]
    · rw [decide_eq_false h1, ZG, Int.sign_eq_one_of_pos (by omega)]
end Go.Eng
namespace Go.Eng
open Go.RowKit
def ZLm (P : Program) (f : FuncId) (T e : TypeId) : Prop := ∀ (B b : Nat) (bs : List Value) (s : ByteArray) (w : World), Lib.IsBuilder T e B b bs w → bs.length + s.size ≤ 140737488355328 → B ≤ w.heap.size →
  Calls P f #[.pointer (some ⟨b, 0, none⟩), .string s] w fun x w' => x = .returned (.tuple #[.int .i64 s.size, .nilIface]) ∧ (Lib.BuilderAt T e B b (.pointer (some ⟨b, 0, none⟩)) (bs ++ Lib.strCells s) w' ∧ Below B w w')
def Tells (P : Program) (f : FuncId) (T e : TypeId) : Prop := ∀ (B b : Nat) (l : List UInt8) (w : World), Lib.IsBuilder T e B b (Lib.byteCells l) w → B ≤ w.heap.size →
  Calls P f #[.pointer (some ⟨b, 0, none⟩)] w fun x w' => x = .returned (.string ⟨l.toArray⟩) ∧ Below B w w'
structure Bld (T e b : Nat) (w0 : Base) (v : Zd) (m : List UInt8) (w : World) : Prop where
  is : Lib.IsBuilder T e b b (Lib.byteCells m) w
  old : ∀ k o, v k = some o → k < b
  base : w0.wd.heap.size ≤ b
  lt : b ≤ w.heap.size
variable {P : Program} {K : Nat} {w0 : Base} {v0 : Zd} {σ : List (Nat × Value)} {ℓ : List Loc} {v : Zd} {a : Act} {w : World}
variable {ops : Array Oper} {Q : Exit → Act → World → Prop} {rest : List Oper}
theorem St.below {w' : World} {b : Nat} (h : St K w0 v0 σ [] v a w) (x : Below b w w') (hv : ∀ k o, v k = some o → k < b) (hb : w0.wd.heap.size ≤ b) : St K w0 v0 σ [] v a w' :=
  ⟨h.size, h.dfr, h.fr, ⟨x.os.trans h.ext.os, x.tape.trans h.ext.tape, x.output.trans h.ext.output, Nat.le_trans h.ext.size x.size, fun k hk hn => (x.block k (by omega)).trans (h.ext.block k hk hn)⟩,
    ⟨h.vst.le, fun k o e => (x.block k (hv k o e)).trans (h.vst.vin k o e), h.vst.old⟩, fun e he => by simp at he, List.nodup_nil⟩
theorem op_newB {o : Oper} {d T : Nat} (e : Nat) (hS : St K w0 v0 σ ℓ v a w) (hw : Region.wanted o (yielded ops a.tmps) = true) (hd : o.dst = some d) (hK : d < K)
    (hrun : (execOp a.eval o).run P w = .ok (.value (.pointer (some ⟨w.heap.size, 0, none⟩))) (w.alloc (.cells #[.pointer none, .slice none 0 0] T)))
    (h : ∀ b a w, St K w0 v0 ((d, .pointer (some ⟨b, 0, none⟩)) :: σ) [] v a w → Bld T e b w0 v [] w → wpList P ops Q rest a w) : wpList P ops Q (o :: rest) a w :=
  Zbe hw (Zlf hrun (by
    rw [hd]
    have h1 : St K w0 v0 σ [] v a w := hS.drop (List.nil_sublist _)
    have h2 : Ext w (w.alloc (.cells #[.pointer none, .slice none 0 0] T)) := Ext.alloc w _
    exact h w.heap.size _ _ ((h1.step h2 (VStep.ext h1.vin h2)).put _ hK) ⟨Lib.fresh_isBuilder T e w, fun k o hk => h1.vin.lt hk, h1.ext.size, h2.size⟩))
theorem ZBq (l l' : List UInt8) : Lib.byteCells l ++ Lib.strCells (Z3 l') = Lib.byteCells (l ++ l') := by simp [Lib.byteCells, Lib.strCells, Z3]
theorem Zkp {o : Oper} {d f T e b : Nat} {m s : List UInt8} (hW : ZLm P f T e) (hB : Bld T e b w0 v m w) (hl : (m ++ s).length ≤ 140737488355328) (hS : St K w0 v0 σ [] v a w) (hw : Region.wanted o (yielded ops a.tmps) = true) (hd : o.dst = some d) (hK : d < K)
    (hrun : (execOp a.eval o).run P w = .ok (.enter f #[.pointer (some ⟨b, 0, none⟩), .string (Z3 s)]) w)
    (h : ∀ a w, St K w0 v0 ((d, .tuple #[.int .i64 s.length, .nilIface]) :: σ) [] v a w → Bld T e b w0 v (m ++ s) w → wpList P ops Q rest a w) : wpList P ops Q (o :: rest) a w := by
  have hc := hW b b (Lib.byteCells m) (Z3 s) w hB.is (by rw [Lib.byteCells_length, Zwd, ← List.length_append]; exact hl) hB.lt; refine Zbe hw (Zlh hrun (Calls.mono hc fun x w' ⟨e1, e2, e3⟩ => ⟨_, e1, ?_⟩)); rw [hd]; rw [Zwd] at *; rw [ZBq] at e2; exact h _ _ ((hS.below e3 hB.old hB.base).put _ hK) ⟨.inr e2, hB.old, hB.base, Nat.le_trans hB.lt e3.size⟩
theorem op_tell {o : Oper} {d f T e b : Nat} {m : List UInt8} (hT : Tells P f T e) (hB : Bld T e b w0 v m w) (hS : St K w0 v0 σ [] v a w) (hw : Region.wanted o (yielded ops a.tmps) = true) (hd : o.dst = some d) (hK : d < K)
    (hrun : (execOp a.eval o).run P w = .ok (.enter f #[.pointer (some ⟨b, 0, none⟩)]) w)
    (h : ∀ a w, St K w0 v0 ((d, .string (Z3 m)) :: σ) [] v a w → wpList P ops Q rest a w) : wpList P ops Q (o :: rest) a w := by
  have hc := hT b b m w hB.is hB.lt; refine Zbe hw (Zlh hrun (Calls.mono hc fun x w' ⟨e1, e3⟩ => ⟨_, e1, ?_⟩)); rw [hd]; exact h _ _ ((hS.below e3 hB.old hB.base).put _ hK)
def Zvg (l : List UInt8) : Option Unit := if l.length ≤ 140737488355328 then some () else none
theorem Zjq {l : List UInt8} {u : Unit} (h : Zvg l = some u) : l.length ≤ 140737488355328 := by
  unfold Zvg at h; split at h
  · assumption
  · cases h
theorem Z8n {q : Option Nat} {b o : Nat} (h : mkA q = some ⟨b, o, none⟩) : q = some b ∧ o = 0 := by
  cases q with
  | none => cases h
  | some c => cases h; exact ⟨rfl, rfl⟩
noncomputable def ZDh (a : Nat) : Option ((List UInt8)) :=
 bnd (bnd (ZZ (fun s : Nat × (List UInt8) => match s with
 | (e, f) =>
 (ifb (decide ((0 : Int) < (((Zj 4294967296 e)).length : Int)))
 (bnd (ZXe e ((1000000000 : Int))) fun c =>
 bnd (bnd (ZZ (fun s : (List UInt8) × Int × Int => match s with
 | (d, b, g) =>
 (bnd (ifb (decide (g < (9 : Int)))
 (ifb (decide ((0 : Int) < (((Zj 4294967296 c.1)).length : Int)))
 (some true)
 (some (decide ((0 : Int) < b))))
 (some false))
 (fun (j : Bool) =>
 (ifb (j)
 (bnd (rem .u32 b ((10 : Int))) fun k =>
 bnd (rem .u32 b ((10 : Int))) fun l =>
 bnd (ZMb (([48, 49, 50, 51, 52, 53, 54, 55, 56, 57] : List UInt8)) k (IntKind.u32.wrap (l + ((1 : Int))))) fun h =>
 bnd (Zec (h ++ d)) fun r =>
 bnd (quo .u32 b ((10 : Int))) fun m =>
 bnd (chk .i64 (g + ((1 : Int)))) fun n =>
 some (.inl (((h ++ d), m, n))))
 (some (.inr d)))))) Zba ((f, c.2, (0 : Int))))
 (fun (o : (List UInt8)) =>
 (some o)))
 (fun (p : (List UInt8)) =>
 (some (.inl ((c.1, p))))))
 (some (.inr f)))) Zba ((a, ([] : List UInt8))))
 (fun (q : (List UInt8)) =>
 (some q)))
 (fun (i : (List UInt8)) =>
 (ifb (i == (([] : List UInt8)))
 (some (([48] : List UInt8)))
 (some i)))
noncomputable def Zrh (a : Nat) : Option ((List UInt8)) :=
 bnd (bnd (ZZ (fun s : Nat × (List (List UInt8)) => match s with
 | (h, c) =>
 (ifb (decide ((0 : Int) < (((Zj 18446744073709551616 h)).length : Int)))
 (bnd (Zre h ((10000000000000000000 : Int))) fun d =>
 bnd (ZEf d.2) fun b =>
 bnd (ifb (decide ((0 : Int) < (((Zj 18446744073709551616 d.1)).length : Int)))
 (bnd (chk .i64 (((19 : Int)) - ((b.length : Int)))) fun m =>
 bnd (ZHf (([48] : List UInt8)) m) fun i =>
 bnd (Zec (i ++ b)) fun r =>
 some ((i ++ b)))
 (some b))
 (fun (j : (List UInt8)) =>
 (bnd (Z8a 16 (c ++ [j])) fun t =>
 some (.inl ((d.1, (c ++ [j])))))))
 (some (.inr c)))) Zba ((a, ([] : (List (List UInt8))))))
 (fun (n : (List (List UInt8))) =>
 (some n)))
 (fun (e : (List (List UInt8))) =>
 (ifb (((e.length : Int)) == ((0 : Int)))
 (some (([48] : List UInt8)))
 (bnd (chk .i64 (((e.length : Int)) - ((1 : Int)))) fun o =>
 bnd (bnd (ZZ (fun s : (List UInt8) × Int => match s with
 | (f, g) =>
 (ifb (decide ((0 : Int) ≤ g))
 (bnd (idx e g) fun k =>
 bnd (Zvg (f ++ k)) fun u =>
 bnd (chk .i64 (g - ((1 : Int)))) fun p =>
 some (.inl (((f ++ k), p))))
 (some (.inr f)))) Zba ((([] : List UInt8), o)))
 (fun (q : (List UInt8)) =>
 (some q)))
 (fun (l : (List UInt8)) =>
 (bnd (Zec l) fun v =>
 some l)))))
noncomputable def ZWh (x : Rat) : Option ((List UInt8)) :=
 bnd (ZNf ((x.num).natAbs)) fun a =>
 bnd (ifb (decide (x.num < 0))
 (bnd (Zec ((([45] : List UInt8)) ++ a)) fun e =>
 some (((([45] : List UInt8)) ++ a)))
 (some a))
 (fun (b : (List UInt8)) =>
 (bnd (ifb (decide ((0 : Int) < (((Zj 18446744073709551616 ((Z2a x.den)))).length : Int)))
 (bnd (ZNf ((Z2a x.den))) fun c =>
 bnd (Zec ((([47] : List UInt8)) ++ c)) fun f =>
 bnd (Zec (b ++ (((([47] : List UInt8)) ++ c)))) fun g =>
 some ((b ++ (((([47] : List UInt8)) ++ c)))))
 (some b))
 (fun (d : (List UInt8)) =>
 (some d))))
theorem Zli (n : Nat) : (ZHa n).length ≤ bl n := by
  induction n using Nat.strongRecOn with
  | ind n ih =>
    by_cases h : n = 0
    · subst h; rw [Zad]; simp
    · rw [Zze h, List.length_append]; have h1 := ih (n / 10) (by omega); have h2 : bl (n / 10) + 1 ≤ bl n := by
        rw [ZZh h]; exact Nat.add_le_add_right (Zmd (by omega)) 1
      simp only [List.length_cons, List.length_nil]; omega
theorem Z9n {n k : Nat} (h : n < 10 ^ k) : (ZHa n).length ≤ k := by
  induction k generalizing n with
  | zero => simp at h; subst h; rw [Zad]; simp
  | succ k ih =>
    by_cases h0 : n = 0
    · subst h0; rw [Zad]; simp
    · rw [Zze h0, List.length_append]; have := ih (n := n / 10) (by rw [Nat.pow_succ] at h; omega); simp only [List.length_cons, List.length_nil]; omega
theorem ZKq {q : Nat} (hq : q ≠ 0) : ∀ (k r : Nat), r < 10 ^ k → ZHa (q * 10 ^ k + r) = ZHa q ++ (List.replicate (k - (ZHa r).length) 48 ++ ZHa r) := by
  intro k
  induction k with
  | zero => intro r h; simp at h; subst h; rw [Zad]; simp
  | succ k ih =>
    intro r h; rw [Nat.pow_succ] at h; have hn : q * 10 ^ (k + 1) + r ≠ 0 := by
      have : 0 < q * 10 ^ (k + 1) := Nat.mul_pos (by omega) (Nat.pow_pos (by omega)); omega
    have e1 : (q * 10 ^ (k + 1) + r) / 10 = q * 10 ^ k + r / 10 := by rw [Nat.pow_succ, ← Nat.mul_assoc]; generalize q * 10 ^ k = p; omega
    have e2 : (q * 10 ^ (k + 1) + r) % 10 = r % 10 := by rw [Nat.pow_succ, ← Nat.mul_assoc]; generalize q * 10 ^ k = p; omega
    rw [Zze hn, e1, e2, ih (r / 10) (by omega)]; by_cases h0 : r = 0
    · subst h0; simp only [Nat.zero_div, Zad, List.length_nil, Nat.sub_zero, List.append_nil, List.append_assoc]; congr 1; rw [List.replicate_succ']; rfl
    · rw [Zze h0, List.length_append]; simp only [List.length_cons, List.length_nil, List.append_assoc]; rw [show k + 1 - ((ZHa (r / 10)).length + (0 + 1)) = k - (ZHa (r / 10)).length by omega]
theorem Zde {l : List UInt8} (h : l.length ≤ 140737488355328) : Zec l = some () := by unfold Zec; rw [if_pos (by unfold maxLen; omega)]
theorem Znp {d : Nat} (h : d < 10) : ZMb ([48, 49, 50, 51, 52, 53, 54, 55, 56, 57] : List UInt8) (d : Int) ((d + 1 : Nat) : Int) = some [UInt8.ofNat (48 + d)] := by
  have : d = 0 ∨ d = 1 ∨ d = 2 ∨ d = 3 ∨ d = 4 ∨ d = 5 ∨ d = 6 ∨ d = 7 ∨ d = 8 ∨ d = 9 := by omega
  rcases this with rfl | rfl | rfl | rfl | rfl | rfl | rfl | rfl | rfl | rfl <;> rfl
theorem quo_u32 {p q : Nat} (hq : 0 < q) (hp : p < 4294967296) : quo .u32 (p : Int) (q : Int) = some ((p / q : Nat) : Int) := by
  unfold quo; rw [if_neg (by omega)]; have e : (p : Int).tdiv (q : Int) = ((p / q : Nat) : Int) := by simp [Int.tdiv_eq_ediv_of_nonneg]
  have h : p / q ≤ p := Nat.div_le_self _ _; generalize p / q = r at *; have h5 : inR .u32 (r : Int) := (show (0 : Int) ≤ (r : Int) ∧ (r : Int) ≤ 4294967295 from ⟨by omega, by omega⟩); rw [e, Zok h5]
theorem beq_nil {l : List UInt8} : (l == ([] : List UInt8)) = decide (l = []) := by
  cases l <;> rfl
theorem Zhm {n : Nat} : ZHa n = [] ↔ n = 0 := by
  constructor
  · intro h; rcases Nat.eq_zero_or_pos n with h0 | h0
    · exact h0
    · rw [Zze (by omega)] at h; simp at h
  · rintro rfl; exact Zad
theorem Z3o {a : Nat} (ha : Zab a) : ZDh a = some (Zub a) := by
  unfold ZDh; rw [ZSa]; have hbl := ZVk ha; refine Zbb (fun s : Nat × List UInt8 => Zab s.1 ∧ ZHa s.1 ++ s.2 = ZHa a) (fun s => bl s.1) (fun r : List UInt8 => r = ZHa a) ⟨ha, by simp⟩ (ZJa (by simp only; omega)) ?_ ?_
  · rintro ⟨x, s⟩ ⟨hx, he⟩; simp only at hx he ⊢; rw [Z1k]; by_cases h0 : x = 0
    · right; subst h0; rw [show decide ((0 : Nat) ≠ 0) = false from rfl, ZG]; exact ⟨_, rfl, by rw [← he, Zad]; rfl⟩
    · left; have e1 : ZXe x (1000000000 : Int) = some (x / 1000000000, ((x % 1000000000 : Nat) : Int)) := by
        unfold ZXe; rw [if_pos ⟨by unfold ZPa; unfold Zab at hx; omega, by omega⟩]; rfl
      rw [decide_eq_true h0, ZH, e1, Ze, ZSa]; have hslen : s.length ≤ 4398046511104 := by
        have := Zli a; rw [← he, List.length_append] at this; omega
      refine ZTk (s := (s, ((x % 1000000000 : Nat) : Int), (0 : Int))) (fun t : List UInt8 × Int × Int => ∃ r k m : Nat, t.2.1 = (r : Int) ∧ t.2.2 = (k : Int) ∧ k + m = 9 ∧ r < 10 ^ m ∧ r < 1000000000 ∧ ZHa (x / 1000000000 * 10 ^ m + r) ++ t.1 = ZHa a) (fun t => 9 - t.2.2.toNat)
        (fun t : List UInt8 => ZHa (x / 1000000000) ++ t = ZHa a) ⟨x % 1000000000, 0, 9, rfl, rfl, rfl, Nat.mod_lt _ (by decide), Nat.mod_lt _ (by decide), by
          rw [show x / 1000000000 * 10 ^ 9 + x % 1000000000 = x by omega]; exact he⟩ (ZJa (by simp)) ?_ ?_
      · rintro ⟨t, r, k⟩ ⟨r, k, m, rfl, rfl, hk, hr, hr2, hd⟩; simp only at hd ⊢; rw [Z1k]; have htl : t.length ≤ 4398046511104 := by
          have := Zli a; rw [← hd, List.length_append] at this; omega
        have cond : ifb (decide ((k : Int) < 9)) (ifb (decide (x / 1000000000 ≠ 0)) (some true) (some (decide ((0 : Int) < (r : Int))))) (some false) = some (decide (k < 9 ∧ x / 1000000000 * 10 ^ m + r ≠ 0)) := by
          by_cases h1 : k < 9
          · rw [decide_eq_true (by omega), ZH]; by_cases h2 : x / 1000000000 = 0
            · rw [decide_eq_false (by simp [h2]), ZG, h2]; exact congrArg some (decide_eq_decide.2 (by omega))
            · rw [decide_eq_true h2, ZH]; have : 0 < x / 1000000000 * 10 ^ m := Nat.mul_pos (by omega) (Nat.pow_pos (by omega)); rw [decide_eq_true ⟨h1, by omega⟩]
          · rw [decide_eq_false (by omega), ZG, decide_eq_false (by omega)]
        rw [cond, Ze]; by_cases hc : k < 9 ∧ x / 1000000000 * 10 ^ m + r ≠ 0
        · left; obtain ⟨h1, h2⟩ := hc; obtain ⟨m, rfl⟩ : ∃ j, m = j + 1 := ⟨m - 1, by omega⟩; have c1 : rem .u32 (r : Int) 10 = some ((r % 10 : Nat) : Int) := ZNe (q := 10) (by omega); have c2 : quo .u32 (r : Int) 10 = some ((r / 10 : Nat) : Int) := quo_u32 (q := 10) (by omega) (by omega); have c3 : IntKind.u32.wrap (((r % 10 : Nat) : Int) + 1) = ((r % 10 + 1 : Nat) : Int) := by rw [wrap_u32]; omega
          have c4 : chk .i64 ((k : Int) + 1) = some ((k + 1 : Nat) : Int) := by rw [show (k : Int) + 1 = ((k + 1 : Nat) : Int) by omega, Zeb (by omega)]
          rw [decide_eq_true ⟨h1, h2⟩, ZH, c1, Ze, Ze, c3, Znp (Nat.mod_lt _ (by omega)), Ze, Zde (by simp; omega), Ze, c2, Ze, c4, Ze]; rw [Nat.pow_succ] at hr; refine ⟨_, rfl, ⟨r / 10, k + 1, m, rfl, rfl, by omega, by omega, by omega, ?_⟩, by simp; omega⟩; simp only; rw [← hd, Zze h2, List.append_assoc]; have e2 : (x / 1000000000 * 10 ^ (m + 1) + r) / 10 = x / 1000000000 * 10 ^ m + r / 10 := by rw [Nat.pow_succ, ← Nat.mul_assoc]; generalize x / 1000000000 * 10 ^ m = p; omega
          have e3 : (x / 1000000000 * 10 ^ (m + 1) + r) % 10 = r % 10 := by rw [Nat.pow_succ, ← Nat.mul_assoc]; generalize x / 1000000000 * 10 ^ m = p; omega
          rw [e2, e3]
        · right; rw [decide_eq_false hc, ZG]; refine ⟨_, rfl, ?_⟩; rw [← hd]; congr 2; by_cases hm : m = 0
          · subst hm; simp at hr; simp [hr]
          · have h2 : x / 1000000000 * 10 ^ m + r = 0 := by
              rcases Nat.eq_zero_or_pos (x / 1000000000 * 10 ^ m + r) with h | h
              · exact h
              · exact absurd ⟨by omega, by omega⟩ hc
            have h3 : x / 1000000000 * 10 ^ m = 0 := by omega
            rcases Nat.mul_eq_zero.1 h3 with h | h
            · rw [h2, h]
            · exact absurd h (Nat.pos_iff_ne_zero.1 (Nat.pow_pos (by omega)))
      · rintro t ht; rw [Ze]; refine ⟨_, rfl, ⟨Zsk (Nat.div_le_self _ _) hx, ht⟩, ?_⟩; simp only; have := ZZh h0; have h3 : bl (x / 1000000000) ≤ bl (x / 2) := Zmd (by omega); omega
  · rintro r rfl; rw [Ze, beq_nil]; unfold Zub; by_cases h0 : a = 0
    · subst h0; rw [decide_eq_true Zad, ZH, if_pos rfl]
    · rw [decide_eq_false (fun h => h0 (Zhm.1 h)), ZG, if_neg h0]
theorem Zio {n : Nat} {z : List UInt8} (h : Zwf n = some z) : ZDh n = some z := by
  unfold Zwf at h; split at h
  · rename_i hh; rw [Z3o hh, h]
  · cases h
theorem ZAp (r : List (List UInt8)) (j : Nat) : ((r.drop j).reverse.flatten).length ≤ r.reverse.flatten.length := by
  have h : r.reverse.flatten = (r.drop j).reverse.flatten ++ (r.take j).reverse.flatten := by
    rw [← List.flatten_append, ← List.reverse_append, List.take_append_drop]
  rw [h, List.length_append]; omega
theorem ZOm (c : UInt8) : ∀ k : Nat, (List.replicate k [c]).flatten = List.replicate k c
  | 0 => rfl
  | k + 1 => by rw [List.replicate_succ, List.flatten_cons, ZOm c k, List.replicate_succ]; rfl
theorem text_eq {a : Nat} (ha : okN a) : Zrh a = some (Zub a) := by
  unfold Zrh; have hbl := ZHk ha; have hda := Zli a; rw [ZSa]; refine Zbb (fun s : Nat × List (List UInt8) => okN s.1 ∧ ZHa s.1 ++ s.2.reverse.flatten = ZHa a ∧ bl s.1 + s.2.length ≤ bl a) (fun s => bl s.1) (fun r : List (List UInt8) => r.reverse.flatten = ZHa a ∧ r.length ≤ bl a ∧ (a ≠ 0 → r ≠ [])) ⟨ha, by simp, by simp⟩ (ZJa (by simp only; omega)) ?_ ?_
  · rintro ⟨x, s⟩ ⟨hx, he, hl⟩; simp only at hx he hl ⊢; by_cases h0 : x = 0
    · right; subst h0; rw [ZWa, show decide ((0 : Int) < (([] : List Int).length : Int)) = false from rfl, ZG]; rw [Zad, List.nil_append] at he; refine ⟨_, rfl, he, by omega, fun h1 h2 => ?_⟩; subst h2; exact h1 (Zhm.1 he.symm)
    · left; have hpos := List.length_pos_iff.2 ((Z2c (n := x) (B := 18446744073709551616) (by decide)).2 h0); have e1 : Zre x (10000000000000000000 : Int) = some (x / 10000000000000000000, ((x % 10000000000000000000 : Nat) : Int)) := by
        unfold Zre; rw [if_pos ⟨hx, by omega⟩]; rfl
      have e2 : ZEf ((x % 10000000000000000000 : Nat) : Int) = some (ZHa (x % 10000000000000000000)) := by unfold ZEf; rw [Int.toNat_natCast]
      rw [decide_eq_true (show (0 : Int) < ((Zj 18446744073709551616 x).length : Int) by omega), ZH, e1, Ze]; simp only; rw [e2, Ze]; have hr : (ZHa (x % 10000000000000000000)).length ≤ 19 := Z9n (k := 19) (Nat.mod_lt _ (by decide)); have hb2 : bl (x / 10000000000000000000) + 1 ≤ bl x := by
        rw [ZZh h0]; exact Nat.add_le_add_right (Zmd (by omega)) 1
      have hsplit : ∃ p : List UInt8, ifb (decide ((0 : Int) < ((Zj 18446744073709551616 (x / 10000000000000000000)).length : Int))) (bnd (chk .i64 (19 - ((ZHa (x % 10000000000000000000)).length : Int))) fun y218 => bnd (ZHf [48] y218) fun y220 => bnd (Zec (y220 ++ ZHa (x % 10000000000000000000))) fun y227 => some (y220 ++ ZHa (x % 10000000000000000000))) (some (ZHa (x % 10000000000000000000))) = some p ∧ ZHa (x / 10000000000000000000) ++ p = ZHa x := by
        by_cases hq : x / 10000000000000000000 = 0
        · refine ⟨_, by rw [hq, ZWa]; rfl, ?_⟩; rw [hq, Zad, List.nil_append]; congr 1; omega
        · have hpos := List.length_pos_iff.2 ((Z2c (n := x / 10000000000000000000) (B := 18446744073709551616) (by decide)).2 hq); obtain ⟨k, hk⟩ : ∃ k, k = 19 - (ZHa (x % 10000000000000000000)).length := ⟨_, rfl⟩; have e3 : chk .i64 (19 - ((ZHa (x % 10000000000000000000)).length : Int)) = some (k : Int) := by rw [show (19 - ((ZHa (x % 10000000000000000000)).length : Int)) = (k : Int) by omega, Zeb (by omega)]
          have e4 : ZHf [48] (k : Int) = some (List.replicate k 48) := by
            unfold ZHf; rw [if_pos ⟨by omega, by simp; omega⟩, Int.toNat_natCast, ZOm]
          refine ⟨List.replicate k 48 ++ ZHa (x % 10000000000000000000), ?_, ?_⟩
          · rw [decide_eq_true (by omega), ZH, e3, Ze, e4, Ze, Zde (by simp; omega), Ze]
          · have := ZKq hq 19 (x % 10000000000000000000) (Nat.mod_lt _ (by decide)); rw [show x / 10000000000000000000 * 10 ^ 19 + x % 10000000000000000000 = x by omega] at this; rw [this, hk]
      obtain ⟨p, ep, hp⟩ := hsplit; rw [ep, Ze, Zte (by simp; omega), Ze]; refine ⟨_, rfl, ⟨Zmi (Nat.div_le_self _ _) hx, ?_, by simp; omega⟩, by simp only; omega⟩; simp only [List.reverse_append, List.reverse_cons, List.reverse_nil, List.nil_append, List.singleton_append, List.flatten_cons]; rw [← List.append_assoc, hp, he]
  · rintro r ⟨hr, hl, hne⟩; rw [Ze]; by_cases h0 : a = 0
    · subst h0; have : r = [] := by
        have := hl; simp [bl] at this; exact this
      subst this; rfl
    · have hne := hne h0; have hpos : 0 < r.length := List.length_pos_iff.2 hne; have e1 : ((r.length : Int) == 0) = false := beq_false_of_ne (by omega); rw [e1, ZG, Zwa (by omega) (by omega), Ze, ZSa]; unfold Zub; rw [if_neg h0]; refine Zbb (fun s : List UInt8 × Int => ∃ k : Nat, s.2 = (k : Int) - 1 ∧ k ≤ r.length ∧ s.1 = (r.drop k).reverse.flatten) (fun s => (s.2 + 1).toNat) (fun t : List UInt8 => t = ZHa a) ⟨r.length, rfl, by omega, by simp⟩ (ZJa (by simp only; omega)) ?_ ?_
      · rintro ⟨s, i⟩ ⟨k, hi, hk, hs⟩; simp only at hi hs ⊢; subst hi hs; by_cases hk0 : k = 0
        · right; subst hk0; rw [show decide ((0 : Int) ≤ ((0 : Nat) : Int) - 1) = false from rfl, ZG]; exact ⟨_, rfl, by rw [List.drop_zero]; exact hr⟩
        · left; obtain ⟨j, rfl⟩ : ∃ j, k = j + 1 := ⟨k - 1, by omega⟩; have ej : ((j + 1 : Nat) : Int) - 1 = (j : Int) := by omega
          have hj : j < r.length := by omega
          have hnew : (r.drop (j + 1)).reverse.flatten ++ r[j] = (r.drop j).reverse.flatten := by
            rw [List.drop_eq_getElem_cons hj, List.reverse_cons, List.flatten_append]; simp
          have hlen : ((r.drop j).reverse.flatten).length ≤ r.reverse.flatten.length := ZAp r j; rw [hr] at hlen; have e2 : Zvg ((r.drop (j + 1)).reverse.flatten ++ r[j]) = some () := by unfold Zvg; rw [if_pos (by rw [hnew]; omega)]
          rw [ej, decide_eq_true (show (0 : Int) ≤ (j : Int) by omega), ZH, Zda hj, Ze, e2, Ze, Zwa (by omega) (by omega), Ze]; exact ⟨_, rfl, ⟨j, rfl, by omega, hnew⟩, by simp⟩
      · rintro t rfl; rw [Ze, Zde (by omega), Ze]
theorem ZQp {n : Nat} {z : List UInt8} (h : ZNf n = some z) : Zrh n = some z := by
  unfold ZNf at h; split at h
  · rename_i hh; rw [text_eq hh, h]
  · cases h
theorem ZUi {n : Nat} (h : bl n ≤ 4398046511104) : (Zub n).length ≤ 4398046511104 := by
  unfold Zub; split
  · simp
  · have := Zli n; omega
theorem Zho {x : Rat} {z : List UInt8} (h : Zoe x = some z) : ZWh x = some z := by
  unfold Zoe at h; split at h
  · rename_i hh; obtain ⟨h1, h2⟩ := hh
    cases h
    unfold ZWh ZNf; have l1 := ZUi (n := x.num.natAbs) (by omega); have l2 := ZUi (n := x.den) (by omega); rw [if_pos (Z1a (by omega)), Ze]; have e1 : ifb (decide (x.num < 0)) (bnd (Zec ([45] ++ Zub x.num.natAbs)) fun y80 => some (([45] : List UInt8) ++ Zub x.num.natAbs)) (some (Zub x.num.natAbs)) = some ((if x.num < 0 then [45] else []) ++ Zub x.num.natAbs) := by
      by_cases h : x.num < 0
      · rw [decide_eq_true h, ZH, Zde (by simp; omega), Ze, if_pos h]
      · rw [decide_eq_false h, ZG, if_neg h]; rfl
    rw [e1, Ze]; unfold txtQ; have l3 : ((if x.num < 0 then [45] else []) ++ Zub x.num.natAbs : List UInt8).length ≤ 4398046511105 := by
      rw [List.length_append]; split <;> simp <;> omega
    generalize ((if x.num < 0 then [45] else []) ++ Zub x.num.natAbs : List UInt8) = s at *; by_cases hd : x.den = 1
    · rw [hd]; rw [show Z2a 1 = 0 from rfl, ZWa]; simp [ifb, bnd]
    · have e2 : Z2a x.den = x.den := by unfold Z2a; rw [if_neg hd]
      have hpos := List.length_pos_iff.2 ((Z2c (n := x.den) (B := 18446744073709551616) (by decide)).2 x.den_nz); rw [e2, decide_eq_true (by omega), ZH, if_pos (Z1a (by omega)), Ze, Zde (by simp; omega), Ze, Zde (by simp; omega), Ze, Ze, if_neg hd]; rfl
  · cases h
noncomputable def Zej (x : Rat) : Option (Bool) :=
 bnd (ZDd x) fun a =>
 some (decide (a ≤ (0 : Int)))
noncomputable def ZOh (l : (List Rat)) (g : Unit) : Option (Int) :=
 bnd (bnd (ZZ (fun s : Int => match s with
 | a =>
 (ifb (decide (a < (l.length : Int)))
 (bnd (idx l a) fun b =>
 bnd (Zej b) fun c =>
 ifb (c)
 (some (.inr ((.inl a))))
 (bnd (chk .i64 (a + ((1 : Int)))) fun d =>
 some (.inl d)))
 (some (.inr ((.inr (()))))))) Zba ((0 : Int)))
 (fun (p : (Int) ⊕ (Unit)) => match p with
 | .inl e =>
 (some ((.inr e)))
 | .inr (()) =>
 (some ((.inl (()))))))
 (fun (p : (Unit) ⊕ (Int)) => match p with
 | .inl (()) =>
 (some ((-1 : Int)))
 | .inr f =>
 (some f))
noncomputable def Zsh (l : (List Rat)) (g : Unit) : Option (Bool) :=
 bnd (ZOh l (())) fun a =>
 some (decide ((0 : Int) ≤ a))
noncomputable def Zvd (l : (List Rat)) : Option (Bool) :=
 bnd (Zsh l (())) fun a =>
 some (!(a))
noncomputable def ZZj (t : (Rat × (List Rat))) : Option (Int) :=
 bnd (Zvd ([t.1])) fun b =>
 ifb (!(b))
 (some ((1 : Int)))
 (bnd (ifb (((t.2.length : Int)) == ((0 : Int)))
 (some true)
 (some (decide ((16 : Int) ≤ (t.2.length : Int)))))
 (fun (c : Bool) =>
 (ifb (c)
 (some ((4 : Int)))
 (bnd (bnd (ZZ (fun s : Int => match s with
 | a =>
 (ifb (decide (a < (t.2.length : Int)))
 (bnd (idx t.2 a) fun d =>
 bnd (ifb (decide ((0 : Int) < a))
 (bnd (chk .i64 (a - ((1 : Int)))) fun e =>
 bnd (idx t.2 e) fun f =>
 bnd (Z9c d f) fun g =>
 some (decide (g ≤ (0 : Int))))
 (some false))
 (fun (h : Bool) =>
 (ifb (h)
 (some (.inr ((.inl ((7 : Int))))))
 (bnd (chk .i64 (a + ((1 : Int)))) fun i =>
 some (.inl i)))))
 (some (.inr ((.inr (()))))))) Zba ((0 : Int)))
 (fun (p : (Int) ⊕ (Unit)) => match p with
 | .inl j =>
 (some ((.inr j)))
 | .inr (()) =>
 (some ((.inl (()))))))
 (fun (p : (Unit) ⊕ (Int)) => match p with
 | .inl (()) =>
 (some ((0 : Int)))
 | .inr k =>
 (some k))))))
noncomputable def Zvk (y : Rat) (r : Rat) : Option (Bool) :=
 bnd (Z9c y r) fun a =>
 some (decide ((0 : Int) ≤ a))
noncomputable def Z0j (l : (List Rat)) (g : Rat) : Option (Int) :=
 bnd (bnd (ZZ (fun s : Int => match s with
 | a =>
 (ifb (decide (a < (l.length : Int)))
 (bnd (idx l a) fun b =>
 bnd (Zvk b g) fun c =>
 ifb (c)
 (some (.inr ((.inl a))))
 (bnd (chk .i64 (a + ((1 : Int)))) fun d =>
 some (.inl d)))
 (some (.inr ((.inr (()))))))) Zba ((0 : Int)))
 (fun (p : (Int) ⊕ (Unit)) => match p with
 | .inl e =>
 (some ((.inr e)))
 | .inr (()) =>
 (some ((.inl (()))))))
 (fun (p : (Unit) ⊕ (Int)) => match p with
 | .inl (()) =>
 (some ((-1 : Int)))
 | .inr f =>
 (some f))
noncomputable def Z6j (t : (Rat × (List Rat))) (x : Rat) : Option (Int) :=
 bnd (Z8h x t.1) fun b =>
 bnd (Z0j t.2 b.1) fun a =>
 ifb (decide (a < (0 : Int)))
 (some ((t.2.length : Int)))
 (some a)
noncomputable def Zyk (t : (Rat × (List Rat))) (x : Rat) : Option (Int × Int) :=
 bnd (ZZj ((t.1, t.2))) fun a =>
 ifb (a != ((0 : Int)))
 (some (((0 : Int), a)))
 (bnd (Z6j ((t.1, t.2)) x) fun b =>
 some ((b, (0 : Int))))
noncomputable def ZPk (d : ((Int × Int) × (Int × Int) × (Int × Int))) : Option ((Rat × Rat × Rat) × (Rat × Rat × Rat)) :=
 bnd (Z9b ((d.1.1, d.1.2))) fun a =>
 bnd (Z9b ((d.2.1.1, d.2.1.2))) fun b =>
 bnd (Z9b ((d.2.2.1, d.2.2.2))) fun c =>
 bnd (ZTc ((d.1.1, d.1.2))) fun e =>
 bnd (ZTc ((d.2.1.1, d.2.1.2))) fun f =>
 bnd (ZTc ((d.2.2.1, d.2.2.2))) fun g =>
 some (((a, b, c), (e, f, g)))
noncomputable def ZAe (x : Rat) (y : Rat) : Option (Rat) :=
 bnd (ZWd x y) fun a =>
 some a.1
noncomputable def ZYc (n : Int) : Option (Rat) :=
 bnd (Zud n) fun a =>
 some a
noncomputable def ZKk (d : (Rat × Rat × Rat)) : Option (Bool) :=
 bnd (Zvd ([d.1, d.2.1, d.2.2])) fun a =>
 some a
noncomputable def Z4k (d : (Rat × Rat × Rat)) (x : Rat) (y : Rat) : Option (Rat × Int) :=
 bnd (ZKk ((d.1, d.2.1, d.2.2))) fun a =>
 ifb (!(a))
 (some (((0 : Rat), (1 : Int))))
 (bnd (ZSc x y) fun b =>
 bnd (ZYc ((1 : Int))) fun c =>
 bnd (ZAe d.2.1 d.1) fun e =>
 bnd (Zfc c e) fun f =>
 bnd (Zsc b f) fun g =>
 some ((g, (0 : Int))))
noncomputable def Z7h (i : Int) (k : Int) : Option (Rat) :=
 ifb (i == k)
 (bnd (ZYc ((1 : Int))) fun a =>
 some a)
 (some ((0 : Rat)))
noncomputable def Zhk (t : (List (List Int))) (n : Int) (g : Unit) : Option (Rat × Rat) :=
 bnd (bnd (mk 8 ((t.length : Int)) ((t.length : Int))) fun an =>
 bnd (mk 8 ((t.length : Int)) ((t.length : Int))) fun ao =>
 some (((List.replicate ((t.length : Int)).toNat ((0 : Int))), (List.replicate ((t.length : Int)).toNat ((0 : Int))))))
 (fun (p : (List Int) × (List Int)) => match p with
 | (u, v) =>
 (bnd (bnd (ZZ (fun s : (List Int) × (List Int) × Int => match s with
 | (h, i, a) =>
 (ifb (decide (a < (t.length : Int)))
 (bnd (idx t a) fun j =>
 bnd (bnd (ZZ (fun s : (List Int) × (List Int) × Int => match s with
 | (e, f, b) =>
 (ifb (decide (b < (j.length : Int)))
 (bnd (idx j b) fun k =>
 bnd (idx e a) fun w =>
 bnd (chk .i64 (w + k)) fun x =>
 bnd (idx e a) fun ap =>
 bnd (idx f b) fun y =>
 bnd (chk .i64 (y + k)) fun z =>
 bnd (idx f b) fun aq =>
 bnd (chk .i64 (b + ((1 : Int)))) fun A =>
 some (.inl (((e.set (a).toNat x), (f.set (b).toNat z), A))))
 (some (.inr ((e, f)))))) Zba ((h, i, (0 : Int))))
 (fun (p : (List Int) × (List Int)) => match p with
 | (B, C) =>
 (some ((B, C)))))
 (fun (p : (List Int) × (List Int)) => match p with
 | (D, E) =>
 (bnd (chk .i64 (a + ((1 : Int)))) fun F =>
 some (.inl ((D, E, F))))))
 (some (.inr ((h, i)))))) Zba ((u, v, (0 : Int))))
 (fun (p : (List Int) × (List Int)) => match p with
 | (G, H) =>
 (some ((G, H)))))
 (fun (p : (List Int) × (List Int)) => match p with
 | (I, J) =>
 (bnd (bnd (ZZ (fun s : Rat × Rat × Int => match s with
 | (l, m, c) =>
 (ifb (decide (c < (t.length : Int)))
 (bnd (idx t c) fun o =>
 bnd (bnd (ZZ (fun s : Rat × Rat × Int => match s with
 | (q, r, d) =>
 (ifb (decide (d < (o.length : Int)))
 (bnd (idx o d) fun K =>
 bnd (Z7h c d) fun L =>
 bnd (ZYc K) fun M =>
 bnd (Zsc L M) fun N =>
 bnd (Zfc q N) fun O =>
 bnd (Z7h c d) fun P =>
 bnd (idx I c) fun Q =>
 bnd (ZYc Q) fun R =>
 bnd (Zsc P R) fun S =>
 bnd (idx J d) fun T =>
 bnd (ZYc T) fun U =>
 bnd (Zsc S U) fun V =>
 bnd (Zfc r V) fun W =>
 bnd (chk .i64 (d + ((1 : Int)))) fun X =>
 some (.inl ((O, W, X))))
 (some (.inr ((q, r)))))) Zba ((l, m, (0 : Int))))
 (fun (p : Rat × Rat) => match p with
 | (Y, Z) =>
 (some ((Y, Z)))))
 (fun (p : Rat × Rat) => match p with
 | (aa, ab) =>
 (bnd (chk .i64 (c + ((1 : Int)))) fun ac =>
 some (.inl ((aa, ab, ac))))))
 (some (.inr ((l, m)))))) Zba (((0 : Rat), (0 : Rat), (0 : Int))))
 (fun (p : Rat × Rat) => match p with
 | (ad, ae) =>
 (some ((ad, ae)))))
 (fun (p : Rat × Rat) => match p with
 | (af, ag) =>
 (bnd (ZYc n) fun ah =>
 bnd (ZAe af ah) fun ai =>
 bnd (ZYc n) fun aj =>
 bnd (ZYc n) fun ak =>
 bnd (Zsc aj ak) fun al =>
 bnd (ZAe ag al) fun am =>
 some ((ai, am))))))))
noncomputable def ZLk (r : (List Int)) (t : (List (List Int))) : Option (Bool) :=
 some (((r.length : Int)) != ((t.length : Int)))
noncomputable def ZYk (l : (List (List Int))) (g : (List (List Int))) : Option (Int) :=
 bnd (bnd (ZZ (fun s : Int => match s with
 | a =>
 (ifb (decide (a < (l.length : Int)))
 (bnd (idx l a) fun b =>
 bnd (ZLk b g) fun c =>
 ifb (c)
 (some (.inr ((.inl a))))
 (bnd (chk .i64 (a + ((1 : Int)))) fun d =>
 some (.inl d)))
 (some (.inr ((.inr (()))))))) Zba ((0 : Int)))
 (fun (p : (Int) ⊕ (Unit)) => match p with
 | .inl e =>
 (some ((.inr e)))
 | .inr (()) =>
 (some ((.inl (()))))))
 (fun (p : (Unit) ⊕ (Int)) => match p with
 | .inl (()) =>
 (some ((-1 : Int)))
 | .inr f =>
 (some f))
noncomputable def Z4j (l : (List (List Int))) (g : (List (List Int))) : Option (Bool) :=
 bnd (ZYk l g) fun a =>
 some (decide ((0 : Int) ≤ a))
noncomputable def Z8j (t : (List (List Int))) : Option (Int × Int) :=
 bnd (ifb (((t.length : Int)) == ((0 : Int)))
 (some ((t, true)))
 (ifb (decide ((8 : Int) < (t.length : Int)))
 (some ((t, true)))
 (bnd (Z4j t t) fun i =>
 some ((t, i)))))
 (fun (p : (List (List Int)) × Bool) => match p with
 | (d, j) =>
 (ifb (j)
 (some (((0 : Int), (4 : Int))))
 (bnd (bnd (ZZ (fun s : Int × Int => match s with
 | (e, a) =>
 (ifb (decide (a < (d.length : Int)))
 (bnd (idx d a) fun f =>
 bnd (bnd (ZZ (fun s : Int × Int => match s with
 | (g, b) =>
 (ifb (decide (b < (f.length : Int)))
 (bnd (idx f b) fun c =>
 bnd (ifb (decide (c < (0 : Int)))
 (some true)
 (some (decide ((1000000 : Int) < c))))
 (fun (k : Bool) =>
 (ifb (k)
 (some (.inr ((.inl (((0 : Int), (1 : Int)))))))
 (bnd (chk .i64 (g + c)) fun l =>
 bnd (chk .i64 (b + ((1 : Int)))) fun m =>
 some (.inl ((l, m)))))))
 (some (.inr ((.inr g)))))) Zba ((e, (0 : Int))))
 (fun (p : (Int × Int) ⊕ (Int)) => match p with
 | .inl ((n, o)) =>
 (some ((.inr ((n, o)))))
 | .inr q =>
 (some ((.inl q)))))
 (fun (p : (Int) ⊕ (Int × Int)) => match p with
 | .inl r =>
 (bnd (chk .i64 (a + ((1 : Int)))) fun u =>
 some (.inl ((r, u))))
 | .inr ((v, w)) =>
 (some (.inr ((.inl ((v, w))))))))
 (some (.inr ((.inr e)))))) Zba (((0 : Int), (0 : Int))))
 (fun (p : (Int × Int) ⊕ (Int)) => match p with
 | .inl ((x, y)) =>
 (some ((.inr ((x, y)))))
 | .inr z =>
 (some ((.inl z)))))
 (fun (p : (Int) ⊕ (Int × Int)) => match p with
 | .inl h =>
 (ifb (h == ((0 : Int)))
 (some (((0 : Int), (3 : Int))))
 (some ((h, (0 : Int)))))
 | .inr ((A, B)) =>
 (some ((A, B)))))))
noncomputable def ZQj (t : (List (List Int))) (g : Unit) : Option (Rat × Int) :=
 bnd (Z8j t) fun a =>
 ifb (a.2 != ((0 : Int)))
 (some (((0 : Rat), a.2)))
 (bnd (Zhk t a.1 (())) fun b =>
 bnd (bnd (ZSc b.1 b.2) fun d =>
 bnd (ZYc ((1 : Int))) fun e =>
 bnd (ZSc e b.2) fun f =>
 bnd (ZWd d f) fun c =>
 some ((c.2, c.1)))
 (fun (p : Int × Rat) => match p with
 | (h, i) =>
 (ifb (h != ((0 : Int)))
 (some (((0 : Rat), (5 : Int))))
 (some ((i, (0 : Int)))))))
noncomputable def ZIk (t : (List (List Int))) : Option (Rat × Int) :=
 bnd (ZQj t (())) fun a =>
 some ((a.1, a.2))
noncomputable def Zqk (l : (List (Int × Int))) : Option ((List Rat) × (List Rat)) :=
 bnd (bnd (ZZ (fun s : (List Rat) × (List Rat) × Int => match s with
 | (b, c, d) =>
 (ifb (decide (d < (l.length : Int)))
 (bnd (idx l d) fun a =>
 bnd (Z9b ((a.1, a.2))) fun e =>
 bnd (Z8a 56 (b ++ [e])) fun m =>
 bnd (ZTc ((a.1, a.2))) fun f =>
 bnd (Z8a 56 (c ++ [f])) fun n =>
 bnd (chk .i64 (d + ((1 : Int)))) fun g =>
 some (.inl (((b ++ [e]), (c ++ [f]), g))))
 (some (.inr ((b, c)))))) Zba ((([] : (List Rat)), ([] : (List Rat)), (0 : Int))))
 (fun (p : (List Rat) × (List Rat)) => match p with
 | (h, i) =>
 (some ((h, i)))))
 (fun (p : (List Rat) × (List Rat)) => match p with
 | (j, k) =>
 (some ((j, k))))
noncomputable def ZNk (step : (Int × Int)) (limits : (List (Int × Int))) : Option ((Rat × (List Rat)) × (Rat × (List Rat))) :=
 bnd (Zqk limits) fun a =>
 bnd (Z9b ((step.1, step.2))) fun b =>
 bnd (ZTc ((step.1, step.2))) fun c =>
 some (((b, a.1), (c, a.2)))
noncomputable def Zef  : Option (Bool) :=
 bnd (ZPk ((((2 : Int), (0 : Int)), ((1 : Int), (2 : Int)), ((4000 : Int), (0 : Int))))) fun a =>
 bnd (bnd (Zud ((48 : Int))) fun f =>
 bnd (Zud ((8 : Int))) fun g =>
 bnd (Z4k ((a.1.1, a.1.2.1, a.1.2.2)) f g) fun b =>
 some ((b.1, b.2)))
 (fun (p : Rat × Int) => match p with
 | (h, i) =>
 (bnd (ZIk ([[(20 : Int), (5 : Int)], [(10 : Int), (15 : Int)]])) fun c =>
 bnd (ZNk (((1 : Int), (10 : Int))) ([((1 : Int), (0 : Int)), ((2 : Int), (0 : Int))])) fun d =>
 bnd (Z9b (((206 : Int), (100 : Int)))) fun j =>
 bnd (Zyk ((d.1.1, d.1.2)) j) fun e =>
 bnd (ifb (i == ((0 : Int)))
 (ifb (c.2 == ((0 : Int)))
 (ifb (e.2 == ((0 : Int)))
 (bnd (Zoe h) fun k =>
 ifb (k == (([53, 48] : List UInt8)))
 (bnd (Zoe c.1) fun l =>
 ifb (l == (([50, 47, 53] : List UInt8)))
 (some (e.1 == ((2 : Int))))
 (some false))
 (some false))
 (some false))
 (some false))
 (some false))
 (fun (m : Bool) =>
 (some m))))
theorem num_pos {q : Rat} : 0 < q.num ↔ 0 < q := by
  have h1 := Rat.num_nonneg (q := q); have h2 := Rat.num_eq_zero (q := q); constructor
  · intro h; have h3 : 0 ≤ q := h1.1 (by omega); have h4 : q ≠ 0 := fun e => by have := h2.2 e; omega
    grind
  · intro h; have h3 : 0 ≤ q.num := h1.2 (by grind); have h4 : q.num ≠ 0 := fun e => by have := h2.1 e; grind
    omega
theorem num_neg {q : Rat} : q.num < 0 ↔ q < 0 := by
  have h1 := Rat.num_nonneg (q := q); constructor
  · intro h; rcases Rat.le_total (a := 0) (b := q) with h3 | h3
    · have := h1.2 h3; omega
    · have h4 : q ≠ 0 := fun e => by subst e; simp at h
      grind
  · intro h; rcases Int.lt_or_le q.num 0 with h3 | h3
    · exact h3
    · have := h1.1 h3; grind
theorem Zsl {q : Rat} : (0 < q.num.sign) ↔ 0 < q := by
  rw [← num_pos]; rcases Int.lt_trichotomy q.num 0 with h | h | h
  · rw [Int.sign_eq_neg_one_of_neg h]; omega
  · rw [h]; simp
  · rw [Int.sign_eq_one_of_pos h]; omega
theorem ZLi {q : Rat} : (q.num.sign < 0) ↔ q < 0 := by
  rw [← num_neg]; rcases Int.lt_trichotomy q.num 0 with h | h | h
  · rw [Int.sign_eq_neg_one_of_neg h]; omega
  · rw [h]; simp
  · rw [Int.sign_eq_one_of_pos h]; omega
theorem Z9j {q : Rat} : (q.num.sign ≤ 0) ↔ q ≤ 0 := by
  have h := Zsl (q := q); constructor
  · intro h1; rcases Rat.le_total (a := q) (b := 0) with h2 | h2
    · exact h2
    · by_cases h3 : q = 0
      · grind
      · have := h.2 (by grind); omega
  · intro h1; rcases Int.lt_or_le 0 q.num.sign with h2 | h2
    · have := h.1 h2; grind
    · exact h2
theorem Z0p {q : Rat} : (0 ≤ q.num.sign) ↔ 0 ≤ q := by
  have h := ZLi (q := q); constructor
  · intro h1; rcases Rat.le_total (a := 0) (b := q) with h2 | h2
    · exact h2
    · by_cases h3 : q = 0
      · grind
      · have := h.2 (by grind); omega
  · intro h1; rcases Int.lt_or_le q.num.sign 0 with h2 | h2
    · have := h.1 h2; grind
    · exact h2
def sz (k : Nat) (x : Rat) : Prop := bl x.num.natAbs ≤ k ∧ bl x.den ≤ k
theorem sz.mono {k m : Nat} {x : Rat} (h : sz k x) (hk : k ≤ m) : sz m x := ⟨by have := h.1; omega, by have := h.2; omega⟩
theorem sz.ok {k : Nat} {x : Rat} (h : sz k x) (hk : k ≤ 1099511627776) : okQ x := ⟨by have := h.1; omega, by have := h.2; omega⟩
theorem sz.sm {k : Nat} {x : Rat} (h : sz k x) (hk : k ≤ 68719476736) : smQ x := ⟨by have := h.1; omega, by have := h.2; omega⟩
theorem Zsd {k m : Nat} {x y : Rat} (h : sz k x) (h' : sz m y) : sz (k + m + 1) (x + y) := by
  have := Znm x y; obtain ⟨a, b⟩ := h; obtain ⟨c, d⟩ := h'; exact ⟨by omega, by omega⟩
theorem ZRh {k m : Nat} {x y : Rat} (h : sz k x) (h' : sz m y) : sz (k + m + 1) (x - y) := by
  have := Zcl x y; obtain ⟨a, b⟩ := h; obtain ⟨c, d⟩ := h'; exact ⟨by omega, by omega⟩
theorem Z4f {k m : Nat} {x y : Rat} (h : sz k x) (h' : sz m y) : sz (k + m) (x * y) := by
  have := ZVn x y; obtain ⟨a, b⟩ := h; obtain ⟨c, d⟩ := h'; exact ⟨by omega, by omega⟩
theorem sz_div {k m : Nat} {x y : Rat} (h : sz k x) (h' : sz m y) : sz (k + m + 1) (x / y) := by
  have := Zhl (x := x) (y := y); obtain ⟨a, b⟩ := h; obtain ⟨c, d⟩ := h'; exact ⟨by omega, by omega⟩
theorem ZAh {n : Int} (h : -9223372036854775808 ≤ n ∧ n ≤ 9223372036854775807) : sz 64 (n : Rat) := by
  have h2 := ZOj n; have h3 : bl n.natAbs ≤ 64 := Zqc (show n.natAbs < 2 ^ 64 by omega); exact ⟨by omega, by omega⟩
def i64 (r : Int × Int) : Prop := (-9223372036854775808 ≤ r.1 ∧ r.1 ≤ 9223372036854775807) ∧ (-9223372036854775808 ≤ r.2 ∧ r.2 ≤ 9223372036854775807)
theorem ZAj {r : Int × Int} (h : i64 r) : sz 64 (Znb r) := by
  unfold Znb; by_cases h0 : r.2 = 0
  · rw [if_pos h0]; exact ZAh h.1
  · rw [if_neg h0, Z6h]; obtain ⟨⟨a, b⟩, c, d⟩ := h; rcases ZSh (if r.2 < 0 then -r.1 else r.1) r.2.natAbs with ⟨h1, h2⟩ | h1
    · have h3 : bl (if r.2 < 0 then -r.1 else r.1).natAbs ≤ 64 := Zqc (show _ < 2 ^ 64 by split <;> omega); have h4 : bl r.2.natAbs ≤ 64 := Zqc (show _ < 2 ^ 64 by omega); exact ⟨by omega, by omega⟩
    · omega
theorem ZNh {k m : Nat} {x y : Rat} (h : sz k x) (h' : sz m y) (hk : k + m ≤ 1000000000) : Zfc x y = some (x + y) := by unfold Zfc; rw [if_pos ⟨h.ok (by omega), h'.ok (by omega)⟩]
theorem qsub_ok {k m : Nat} {x y : Rat} (h : sz k x) (h' : sz m y) (hk : k + m ≤ 1000000000) : ZSc x y = some (x - y) := by unfold ZSc; rw [if_pos ⟨h.ok (by omega), h'.ok (by omega)⟩]
theorem qmul_ok {k m : Nat} {x y : Rat} (h : sz k x) (h' : sz m y) (hk : k + m ≤ 1000000000) : Zsc x y = some (x * y) := by unfold Zsc; rw [if_pos ⟨h.ok (by omega), h'.ok (by omega)⟩]
theorem qdiv_ok {k m : Nat} {x y : Rat} (h : sz k x) (h' : sz m y) (hk : k + m ≤ 1000000000) (hy : y ≠ 0) : ZWd x y = some (x / y, 0) := by unfold ZWd; rw [if_pos ⟨h.ok (by omega), h'.ok (by omega)⟩, if_neg hy]
theorem ZVj {k m : Nat} {x y : Rat} (h : sz k x) (h' : sz m y) (hk : k + m ≤ 1000000000) : Z9c x y = some (x - y).num.sign := by unfold Z9c; rw [if_pos ⟨h.ok (by omega), h'.ok (by omega)⟩]
def decG : Nat → Nat → List UInt8
  | 0, _ => []
  | k + 1, n => if n = 0 then [] else decG k (n / 10) ++ [UInt8.ofNat (48 + n % 10)]
theorem ZBk : ∀ (k n : Nat), n ≤ k → decG k n = ZHa n
  | 0, n, h => by
    have : n = 0 := by omega
    subst this; rw [Zad]; rfl
  | k + 1, n, h => by
    by_cases h0 : n = 0
    · subst h0; rw [Zad]; rfl
    · rw [Zze h0, decG, if_neg h0, ZBk k (n / 10) (by omega)]
def txtG (x : Rat) : List UInt8 := (if x.num < 0 then [45] else []) ++ (if x.num.natAbs = 0 then [48] else decG x.num.natAbs x.num.natAbs) ++ (if x.den = 1 then [] else 47 :: (if x.den = 0 then [48] else decG x.den x.den))
theorem txtG_eq : txtG = txtQ := by
  funext x
  unfold txtG txtQ Zub; rw [ZBk _ _ (Nat.le_refl _), ZBk _ _ (Nat.le_refl _)]
def Zam (x : Rat) : Option (List UInt8) := if okQ x then some (txtG x) else none
theorem Z7p : Zoe = Zam := by
  funext x
  unfold Zoe Zam; rw [txtG_eq]
set_option maxRecDepth 100000 in
theorem ZXq : Zef = some true := by
  unfold Zef; rw [Z7p]; decide +kernel
theorem Zib {α β : Type} {x : Option α} {y : α} {f : α → Option β} {z : Option β} (h : x = some y) (h2 : f y = z) : bnd x f = z := by subst h; rw [Ze]; exact h2
theorem Zag {S R : Type} {body : S → Option (S ⊕ R)} {s : S} {r : R} (st : Nat → S) (n : Nat) (h0 : st 0 = s) (hn : n < 2 ^ 64) (h : ∀ k, k < n → body (st k) = some (.inl (st (k + 1)))) (he : body (st n) = some (.inr r)) : ZZ body Zba s = some r := by
  have key : ∀ m f k, k + m = n → m < f → ZZ body f (st k) = some r := by
    intro m
    induction m with
    | zero =>
      intro f k hk hf; obtain ⟨f, rfl⟩ : ∃ g, f = g + 1 := ⟨f - 1, by omega⟩; obtain rfl : k = n := by omega
      unfold ZZ; rw [he, Ze]
    | succ m ih =>
      intro f k hk hf; obtain ⟨f, rfl⟩ : ∃ g, f = g + 1 := ⟨f - 1, by omega⟩; unfold ZZ; rw [h k (by omega), Ze]; exact ih f (k + 1) (by omega) (by omega)
  rw [← h0]; exact key n Zba 0 (by omega) (ZJa (by omega))
theorem Zqp {α : Type} {p : α → Bool} {l : List α} (h : l.any p = true) : ∃ m, ∃ hm : m < l.length, p l[m] = true ∧ ∀ j, (h : j < l.length) → j < m → p l[j] = false := by
  have hm : l.findIdx p < l.length := List.findIdx_lt_length.2 (List.any_eq_true.1 h); exact ⟨l.findIdx p, hm, List.findIdx_getElem, fun j hj hjm => by
    have := List.not_of_lt_findIdx hjm
    simpa using this⟩
theorem Zwm {α : Type} {p : α → Bool} {l : List α} (h : l.any p = false) : ∀ j, (hj : j < l.length) → p l[j] = false := fun j hj => by
  rw [List.any_eq_false] at h
  simpa using h l[j] (List.getElem_mem hj)
noncomputable def Zqj (x : Rat) : Option (Bool) :=
 bnd (ZDd x) fun a =>
 some (decide (a < (0 : Int)))
noncomputable def Zui (l : (List Rat)) (g : Unit) : Option (Int) :=
 bnd (bnd (ZZ (fun s : Int => match s with
 | a =>
 (ifb (decide (a < (l.length : Int)))
 (bnd (idx l a) fun b =>
 bnd (Zqj b) fun c =>
 ifb (c)
 (some (.inr ((.inl a))))
 (bnd (chk .i64 (a + ((1 : Int)))) fun d =>
 some (.inl d)))
 (some (.inr ((.inr (()))))))) Zba ((0 : Int)))
 (fun (p : (Int) ⊕ (Unit)) => match p with
 | .inl e =>
 (some ((.inr e)))
 | .inr (()) =>
 (some ((.inl (()))))))
 (fun (p : (Unit) ⊕ (Int)) => match p with
 | .inl (()) =>
 (some ((-1 : Int)))
 | .inr f =>
 (some f))
noncomputable def ZEg (l : (List Rat)) (g : Unit) : Option (Bool) :=
 bnd (Zui l (())) fun a =>
 some (decide ((0 : Int) ≤ a))
noncomputable def Zse (l : (List Rat)) : Option (Bool) :=
 bnd (ZEg l (())) fun a =>
 some a
theorem ZRp (l : List Rat) (hl : l.length ≤ 4611686018427387904) : Zsh l () = some (l.any fun x => decide (x.num.sign ≤ 0)) := by
  unfold Zsh ZOh Zej ZDd; rw [ZSa, ZSa]; refine Zbb (fun s : Int => ∃ k : Nat, s = (k : Int) ∧ k ≤ l.length ∧ (l.take k).any (fun x => decide (x.num.sign ≤ 0)) = false) (fun s => l.length - s.toNat)
      (fun r : Int ⊕ Unit => (∃ k : Nat, r = .inl (k : Int) ∧ l.any (fun x => decide (x.num.sign ≤ 0)) = true) ∨ r = .inr () ∧ l.any (fun x => decide (x.num.sign ≤ 0)) = false) ⟨0, rfl, by omega, rfl⟩ (ZJa (by simp; omega)) ?_ ?_
  · rintro s ⟨k, rfl, hk, ha⟩; simp only; by_cases h : k < l.length
    · rw [decide_eq_true (by omega), ZH, Zda h, Ze, Ze, Ze]; by_cases h2 : l[k].num.sign ≤ 0
      · right; rw [decide_eq_true h2, ZH]; exact ⟨_, rfl, .inl ⟨k, rfl, List.any_eq_true.2 ⟨l[k], List.getElem_mem h, decide_eq_true h2⟩⟩⟩
      · left; rw [decide_eq_false h2, ZG, Zwa (by omega) (by omega), Ze]; refine ⟨_, rfl, ⟨k + 1, by simp, by omega, ?_⟩, by simp; omega⟩; rw [List.take_succ_eq_append_getElem h, List.any_append, ha]; simp only [List.any_cons, List.any_nil, Bool.or_false, Bool.false_or]; exact decide_eq_false h2
    · right; rw [decide_eq_false (by omega), ZG]; rw [List.take_of_length_le (by omega)] at ha; exact ⟨_, rfl, .inr ⟨rfl, ha⟩⟩
  · rintro r (⟨k, rfl, h⟩ | ⟨rfl, h⟩)
    · rw [h]; simp only [Ze]; exact congrArg some (decide_eq_true (by omega))
    · rw [h]; rfl
theorem Zjo (l : List Rat) (hl : l.length ≤ 4611686018427387904) : ZEg l () = some (l.any fun x => decide (x.num.sign < 0)) := by
  unfold ZEg Zui Zqj ZDd; rw [ZSa, ZSa]; refine Zbb (fun s : Int => ∃ k : Nat, s = (k : Int) ∧ k ≤ l.length ∧ (l.take k).any (fun x => decide (x.num.sign < 0)) = false) (fun s => l.length - s.toNat)
      (fun r : Int ⊕ Unit => (∃ k : Nat, r = .inl (k : Int) ∧ l.any (fun x => decide (x.num.sign < 0)) = true) ∨ r = .inr () ∧ l.any (fun x => decide (x.num.sign < 0)) = false) ⟨0, rfl, by omega, rfl⟩ (ZJa (by simp; omega)) ?_ ?_
  · rintro s ⟨k, rfl, hk, ha⟩; simp only; by_cases h : k < l.length
    · rw [decide_eq_true (by omega), ZH, Zda h, Ze, Ze, Ze]; by_cases h2 : l[k].num.sign < 0
      · right; rw [decide_eq_true h2, ZH]; exact ⟨_, rfl, .inl ⟨k, rfl, List.any_eq_true.2 ⟨l[k], List.getElem_mem h, decide_eq_true h2⟩⟩⟩
      · left; rw [decide_eq_false h2, ZG, Zwa (by omega) (by omega), Ze]; refine ⟨_, rfl, ⟨k + 1, by simp, by omega, ?_⟩, by simp; omega⟩; rw [List.take_succ_eq_append_getElem h, List.any_append, ha]; simp only [List.any_cons, List.any_nil, Bool.or_false, Bool.false_or]; exact decide_eq_false h2
    · right; rw [decide_eq_false (by omega), ZG]; rw [List.take_of_length_le (by omega)] at ha; exact ⟨_, rfl, .inr ⟨rfl, ha⟩⟩
  · rintro r (⟨k, rfl, h⟩ | ⟨rfl, h⟩)
    · rw [h]; simp only [Ze]; exact congrArg some (decide_eq_true (by omega))
    · rw [h]; rfl
theorem ZDm (l : List Rat) (hl : l.length ≤ 4611686018427387904) : Zvd l = some (l.all fun x => decide (0 < x)) := by
  unfold Zvd; rw [ZRp l hl, Ze, List.not_any_eq_all_not]; congr 2
  funext x
  rw [Bool.eq_iff_iff]; simp only [Bool.not_eq_true', decide_eq_false_iff_not, decide_eq_true_iff, Z9j]; grind
theorem Zjl (l : List Rat) (hl : l.length ≤ 4611686018427387904) : Zse l = some (l.any fun x => decide (x < 0)) := by
  unfold Zse; rw [Zjo l hl, Ze]; congr 2
  funext x
  exact decide_eq_decide.2 ZLi
theorem tby_ok {k m : Nat} {x y : Rat} (h : sz k x) (h' : sz m y) (hk : k + m ≤ 1000000000) (hy : y ≠ 0) : ZAe x y = some (x / y) := by
  unfold ZAe; rw [qdiv_ok h h' hk hy, Ze]
theorem ZXo (n : Int) : ZYc n = some (n : Rat) := by unfold ZYc Zud; rw [Ze]
noncomputable def ZOd  : Option (Rat) :=
 bnd (ZQc ((0 : Int))) fun a =>
 some a
def ent (t : List (List Int)) (i k : Nat) : Int := (t.getD i []).getD k 0
def upd (l : List Int) (i : Nat) (x : Int) : List Int := l.set i (l.getD i 0 + x)
theorem Z0c {α : Type} {l : List α} {i : Nat} {d : α} (h : i < l.length) : l.getD i d = l[i] := by rw [List.getD_eq_getElem?_getD, List.getElem?_eq_getElem h]; rfl
def rcF (t : List (List Int)) (i k : Nat) (p : List Int × List Int) : List Int × List Int := (upd p.1 i (ent t i k), upd p.2 k (ent t i k))
def RC (n : Nat) (B : Int) (p : List Int × List Int) : Prop := p.1.length = n ∧ p.2.length = n ∧ (∀ x ∈ p.1, 0 ≤ x ∧ x ≤ B) ∧ (∀ x ∈ p.2, 0 ≤ x ∧ x ≤ B)
theorem RC.at1 {n : Nat} {B : Int} {p : List Int × List Int} (h : RC n B p) {i : Nat} (hi : i < n) : ∃ hh : i < p.1.length, 0 ≤ p.1[i] ∧ p.1[i] ≤ B ∧ p.1.getD i 0 = p.1[i] := by
  have h1 : i < p.1.length := by rw [h.1]; exact hi
  exact ⟨h1, (h.2.2.1 _ (List.getElem_mem h1)).1, (h.2.2.1 _ (List.getElem_mem h1)).2, Z0c h1⟩
theorem RC.at2 {n : Nat} {B : Int} {p : List Int × List Int} (h : RC n B p) {i : Nat} (hi : i < n) : ∃ hh : i < p.2.length, 0 ≤ p.2[i] ∧ p.2[i] ≤ B ∧ p.2.getD i 0 = p.2[i] := by
  have h1 : i < p.2.length := by rw [h.2.1]; exact hi
  exact ⟨h1, (h.2.2.2 _ (List.getElem_mem h1)).1, (h.2.2.2 _ (List.getElem_mem h1)).2, Z0c h1⟩
theorem Zqn {l : List Int} {i : Nat} {x B : Int} (hx : 0 ≤ x ∧ x ≤ 1000000) (hi : i < l.length) (h : ∀ y ∈ l, 0 ≤ y ∧ y ≤ B) : ∀ y ∈ upd l i x, 0 ≤ y ∧ y ≤ B + 1000000 := by
  intro y hy; unfold upd at hy; have h2 := h _ (List.getElem_mem hi); rcases List.mem_or_eq_of_mem_set hy with h1 | h1
  · have := h y h1; omega
  · rw [Z0c hi] at h1; omega
structure Good (t : List (List Int)) : Prop where
  n0 : 0 < t.length
  n8 : t.length ≤ 8
  sq : ∀ i, (h : i < t.length) → t[i].length = t.length
  ok : ∀ i k, i < t.length → k < t.length → 0 ≤ ent t i k ∧ ent t i k ≤ 1000000
theorem RC.step {t : List (List Int)} (g : Good t) {B : Int} {p : List Int × List Int} {i k : Nat} (hi : i < t.length) (hk : k < t.length) (h : RC t.length B p) : RC t.length (B + 1000000) (rcF t i k p) :=
  ⟨by simp [rcF, upd, h.1], by simp [rcF, upd, h.2.1], Zqn (g.ok i k hi hk) (by rw [h.1]; exact hi) h.2.2.1, Zqn (g.ok i k hi hk) (by rw [h.2.1]; exact hk) h.2.2.2⟩
theorem RC.mono {n : Nat} {B C : Int} {p : List Int × List Int} (h : RC n B p) (hB : B ≤ C) : RC n C p :=
  ⟨h.1, h.2.1, fun x hx => by have := h.2.2.1 x hx; omega, fun x hx => by have := h.2.2.2 x hx; omega⟩
def pqF (t : List (List Int)) (w : Nat → Nat → Rat) (p : List Int × List Int) (i k : Nat) (s : Rat × Rat) : Rat × Rat :=
  (s.1 + w i k * ((ent t i k : Int) : Rat), s.2 + w i k * ((p.1.getD i 0 : Int) : Rat) * ((p.2.getD k 0 : Int) : Rat))
def SZ (k : Nat) (s : Rat × Rat) : Prop := sz k s.1 ∧ sz k s.2
theorem SZ.mono {k m : Nat} {s : Rat × Rat} (h : SZ k s) (hk : k ≤ m) : SZ m s := ⟨h.1.mono hk, h.2.mono hk⟩
theorem Zpe : sz 1 (0 : Rat) := by constructor <;> decide
section
variable {t : List (List Int)} {w : Nat → Nat → Rat} {p : List Int × List Int}
theorem SZ.step (g : Good t) (hw : ∀ i k, i < t.length → k < t.length → sz 200 (w i k)) (hp : RC t.length 64000000 p) {i k c : Nat} {s : Rat × Rat} (hi : i < t.length) (hk : k < t.length) (h : SZ c s) : SZ (c + 400) (pqF t w p i k s) := by
  have e := g.ok i k hi hk; obtain ⟨_, a1, a2, a3⟩ := hp.at1 hi; obtain ⟨_, b1, b2, b3⟩ := hp.at2 hk; refine ⟨(Zsd h.1 (Z4f (hw i k hi hk) (ZAh (n := ent t i k) (by omega)))).mono (by omega), (Zsd h.2 (Z4f (Z4f (hw i k hi hk) (ZAh (n := p.1.getD i 0) (by omega))) (ZAh (n := p.2.getD k 0) (by omega)))).mono (by omega)⟩
end
set_option maxRecDepth 100000
noncomputable def Zth (x : Rat) : Option (Rat) :=
 bnd (ZAc x) fun a =>
 bnd (ZYb (!(decide (x.num < 0))) x.num.natAbs a) fun b =>
 some b
noncomputable def ZIg (x : Rat) (y : Rat) : Option (Rat) :=
 bnd (ZAc x) fun a =>
 bnd (ZAc y) fun b =>
 bnd (Zdb x.num.natAbs b) fun c =>
 bnd (Zdb y.num.natAbs a) fun d =>
 ifb ((decide (x.num < 0)) == (decide (y.num < 0)))
 (bnd (ZGf c d) fun e =>
 bnd (Zdb a b) fun f =>
 bnd (ZYb (decide (x.num < 0)) e f) fun g =>
 some g)
 (bnd (ZEd c d) fun h =>
 ifb (decide ((0 : Int) ≤ h))
 (bnd (ZCc c d) fun i =>
 bnd (Zdb a b) fun j =>
 bnd (ZYb (decide (x.num < 0)) i j) fun k =>
 some k)
 (bnd (ZCc d c) fun l =>
 bnd (Zdb a b) fun m =>
 bnd (ZYb (decide (y.num < 0)) l m) fun n =>
 some n))
noncomputable def ZPi (x : Rat) (y : Rat) : Option (Rat) :=
 bnd (ZBh y) fun a =>
 bnd (Zxd x a) fun b =>
 some b
noncomputable def ZEj (x : Rat) (y : Rat) : Option (Rat) :=
 bnd (Zdb x.num.natAbs y.num.natAbs) fun a =>
 bnd (ZAc x) fun b =>
 bnd (ZAc y) fun c =>
 bnd (Zdb b c) fun d =>
 bnd (ZYb ((decide (x.num < 0)) != (decide (y.num < 0))) a d) fun e =>
 some e
noncomputable def ZFi (x : Rat) (y : Rat) : Option (Rat × Int) :=
 bnd (Z5c y) fun a =>
 ifb (a)
 (bnd (ZQc ((0 : Int))) fun b =>
 some ((b, (3 : Int))))
 (bnd (ZAc y) fun c =>
 bnd (Zdb x.num.natAbs c) fun d =>
 bnd (ZAc x) fun e =>
 bnd (Zdb e y.num.natAbs) fun f =>
 bnd (ZYb ((decide (x.num < 0)) != (decide (y.num < 0))) d f) fun g =>
 some ((g, (0 : Int))))
noncomputable def ZAi (x : Rat) (y : Rat) : Option (Rat) :=
 bnd (Zhh x y) fun a =>
 some a.1
noncomputable def ZGj (x : Rat) (y : Rat) : Option (Int) :=
 bnd (Zxe x y) fun a =>
 bnd (Zrc a) fun b =>
 some b
noncomputable def Zki (x : Rat) (y : Rat) : Option (Bool) :=
 bnd (ZVd x y) fun a =>
 some (a == ((0 : Int)))
noncomputable def ZIj (x : Rat) : Option ((List UInt8)) :=
 bnd (Zwf x.num.natAbs) fun b =>
 bnd (ifb (decide (x.num < 0))
 (bnd (Z5c x) fun d =>
 some (!(d)))
 (some false))
 (fun (e : Bool) =>
 (bnd (ifb (e)
 (bnd (Zec ((([45] : List UInt8)) ++ b)) fun j =>
 some (((([45] : List UInt8)) ++ b)))
 (some b))
 (fun (a : (List UInt8)) =>
 (bnd (ZAc x) fun f =>
 bnd (ZXc ([(1 : Int)])) fun g =>
 bnd (ZEd f g) fun h =>
 bnd (ifb (decide ((0 : Int) < h))
 (bnd (Zec (a ++ (([47] : List UInt8)))) fun k =>
 bnd (Zwf x.den) fun c =>
 bnd (Zec (((a ++ (([47] : List UInt8)))) ++ c)) fun l =>
 some ((((a ++ (([47] : List UInt8)))) ++ c)))
 (some a))
 (fun (i : (List UInt8)) =>
 (some i))))))
theorem ZBd {n : Nat} (h : bl n ≤ 1099511627776) : Zab n := ZYm (by omega)
theorem Zdc {n : Nat} (h : bl n ≤ 1099511627776) : ZPa n := by have := ZBd h; unfold Zab at this; unfold ZPa; omega
theorem rneg_eq {x : Rat} (h : okQ x) : Zth x = some (-x) := by
  obtain ⟨h1, h2⟩ := h; unfold Zth ZAc ZYb; rw [Ze, if_pos ⟨ZBd h1, ZBd h2, x.den_nz⟩, Ze]; congr 1; have e : sgn (!(decide (x.num < 0))) x.num.natAbs = -x.num := by
    unfold sgn; by_cases h : x.num < 0
    · simp [h]; omega
    · simp [h]; omega
  rw [e]; exact Rat.mkRat_self (-x)
theorem Z0o {x z : Rat} (h : ZBh x = some z) : Zth x = some z := by
  unfold ZBh at h; split at h
  · rename_i hh; rw [rneg_eq hh, h]
  · cases h
theorem radd_eq {x y : Rat} (h : smQ x) (h' : smQ y) : ZIg x y = some (x + y) := by
  obtain ⟨a1, a2⟩ := h; obtain ⟨b1, b2⟩ := h'; unfold ZIg ZAc; have p1 := Zxb x.num.natAbs y.den; have p2 := Zxb y.num.natAbs x.den; have p3 := Zxb x.den y.den; have p4 := Z3i (x.num.natAbs * y.den) (y.num.natAbs * x.den); have hd : x.den * y.den ≠ 0 := Nat.mul_ne_zero x.den_nz y.den_nz; have e1 : Zdb x.num.natAbs y.den = some (x.num.natAbs * y.den) := by unfold Zdb; rw [if_pos ⟨Zdc (by omega), Zdc (by omega)⟩]
  have e2 : Zdb y.num.natAbs x.den = some (y.num.natAbs * x.den) := by unfold Zdb; rw [if_pos ⟨Zdc (by omega), Zdc (by omega)⟩]
  have e3 : Zdb x.den y.den = some (x.den * y.den) := by unfold Zdb; rw [if_pos ⟨Zdc (by omega), Zdc (by omega)⟩]
  have eN : ((x.num.natAbs * y.den : Nat) : Int) = (x.num.natAbs : Int) * y.den := by simp
  have eM : ((y.num.natAbs * x.den : Nat) : Int) = (y.num.natAbs : Int) * x.den := by simp
  have key : ∀ (s : Bool) (n : Nat), bl n ≤ 1099511627776 → sgn s n = x.num * y.den + y.num * x.den → ZYb s n (x.den * y.den) = some (x + y) := by
    intro s n hn he; unfold ZYb; rw [if_pos ⟨ZBd hn, ZBd (by omega), hd⟩, he, ← Rat.add_def']
  rw [Ze, Ze, e1, Ze, e2, Ze, e3]; obtain ⟨N, hN⟩ : ∃ N, N = x.num.natAbs * y.den := ⟨_, rfl⟩; obtain ⟨M, hM⟩ : ∃ M, M = y.num.natAbs * x.den := ⟨_, rfl⟩; rw [← hN] at p1 p4 eN ⊢; rw [← hM] at p2 p4 eM ⊢; have sx : x.num * (y.den : Int) = if x.num < 0 then -(N : Int) else N := by
    split
    · rw [eN, ← Int.neg_mul]; congr 1; omega
    · rw [eN]; congr 1; omega
  have sy : y.num * (x.den : Int) = if y.num < 0 then -(M : Int) else M := by
    split
    · rw [eM, ← Int.neg_mul]; congr 1; omega
    · rw [eM]; congr 1; omega
  by_cases hs : (x.num < 0) ↔ (y.num < 0)
  · have e4 : ZGf N M = some (N + M) := by unfold ZGf; rw [if_pos ⟨Zdc (by omega), Zdc (by omega)⟩]
    have e5 : ((decide (x.num < 0)) == (decide (y.num < 0))) = true := by
      by_cases h : x.num < 0
      · simp [h, hs.1 h]
      · have h2 : ¬ y.num < 0 := fun k => h (hs.2 k); simp [h, h2]
    rw [e5, ZH, e4, Ze, Ze, key _ _ (by omega) ?_, Ze]; rw [sx, sy]; unfold sgn; by_cases h : x.num < 0
    · have h2 := hs.1 h; simp [h, h2]; omega
    · have h2 : ¬ y.num < 0 := fun k => h (hs.2 k); simp [h, h2]
  · have e5 : ((decide (x.num < 0)) == (decide (y.num < 0))) = false := by
      apply beq_false_of_ne; intro h; exact hs (by by_cases k : x.num < 0 <;> by_cases k2 : y.num < 0 <;> simp_all)
    rw [e5, ZG]; unfold ZEd; rw [Ze]; by_cases hle : M ≤ N
    · have e6 : decide ((0 : Int) ≤ Z6a N M) = true := by
        unfold Z6a; rw [if_neg (by omega)]; split <;> rfl
      have e4 : ZCc N M = some (N - M) := by unfold ZCc; rw [if_pos ⟨Zdc (by omega), hle⟩]
      have hb : bl (N - M) ≤ bl N := Zmd (by omega); rw [e6, ZH, e4, Ze, Ze, key _ _ (by omega) ?_, Ze]; rw [sx, sy]; unfold sgn; by_cases h : x.num < 0
      · have h2 : ¬ y.num < 0 := fun k => hs ⟨fun _ => k, fun _ => h⟩; simp [h, h2]; omega
      · have h2 : y.num < 0 := by
          rcases Int.lt_or_le y.num 0 with k | k
          · exact k
          · exact absurd ⟨fun q => absurd q h, fun q => absurd q (by omega)⟩ hs
        simp [h, h2]; omega
    · have e6 : decide ((0 : Int) ≤ Z6a N M) = false := by
        unfold Z6a; rw [if_pos (by omega)]; rfl
      have e4 : ZCc M N = some (M - N) := by unfold ZCc; rw [if_pos ⟨Zdc (by omega), by omega⟩]
      have hb : bl (M - N) ≤ bl M := Zmd (by omega); rw [e6, ZG, e4, Ze, Ze, key _ _ (by omega) ?_, Ze]; rw [sx, sy]; unfold sgn; by_cases h : x.num < 0
      · have h2 : ¬ y.num < 0 := fun k => hs ⟨fun _ => k, fun _ => h⟩; simp [h, h2]; omega
      · have h2 : y.num < 0 := by
          rcases Int.lt_or_le y.num 0 with k | k
          · exact k
          · exact absurd ⟨fun q => absurd q h, fun q => absurd q (by omega)⟩ hs
        simp [h, h2]; omega
theorem Z1p {x y z : Rat} (h : Zxd x y = some z) : ZIg x y = some z := by
  unfold Zxd at h; split at h
  · rename_i hh; rw [radd_eq hh.1 hh.2, h]
  · cases h
theorem smQ_neg {x : Rat} (h : smQ x) : smQ (-x) := by
  unfold smQ at *; have := ZTj x; rw [this.1, this.2]; exact h
theorem smQ_ok {x : Rat} (h : smQ x) : okQ x := by unfold smQ at h; unfold okQ; omega
theorem Zro {x y z : Rat} (h : Zxe x y = some z) : ZPi x y = some z := by
  unfold Zxe at h; split at h
  · rename_i hh; unfold ZPi ZBh Zxd; rw [if_pos (smQ_ok hh.2), Ze, if_pos ⟨hh.1, smQ_neg hh.2⟩, Ze, ← Rat.sub_eq_add_neg]; exact h
  · cases h
theorem ZUq {x y z : Rat} (h : Zkg x y = some z) : ZEj x y = some z := by
  unfold Zkg at h; split at h
  · rename_i hh; obtain ⟨⟨a1, a2⟩, b1, b2⟩ := hh
    cases h
    unfold ZEj ZAc; have p1 := Zxb x.num.natAbs y.num.natAbs; have p3 := Zxb x.den y.den; have e1 : Zdb x.num.natAbs y.num.natAbs = some (x.num.natAbs * y.num.natAbs) := by unfold Zdb; rw [if_pos ⟨Zdc (by omega), Zdc (by omega)⟩]
    have e3 : Zdb x.den y.den = some (x.den * y.den) := by unfold Zdb; rw [if_pos ⟨Zdc (by omega), Zdc (by omega)⟩]
    rw [e1, Ze, Ze, Ze, e3, Ze]; unfold ZYb; rw [if_pos ⟨ZBd (by omega), ZBd (by omega), Nat.mul_ne_zero x.den_nz y.den_nz⟩, Ze]; have e : sgn ((decide (x.num < 0)) != (decide (y.num < 0))) (x.num.natAbs * y.num.natAbs) = x.num * y.num := by
      have eN : ((x.num.natAbs * y.num.natAbs : Nat) : Int) = (x.num.natAbs : Int) * y.num.natAbs := by simp
      unfold sgn; rw [eN]; by_cases h : x.num < 0
      · have hx : (x.num.natAbs : Int) = -x.num := by omega
        by_cases h2 : y.num < 0
        · have hy : (y.num.natAbs : Int) = -y.num := by omega
          simp [h, h2, hx, hy, Int.neg_mul, Int.mul_neg]
        · have hy : (y.num.natAbs : Int) = y.num := by omega
          simp [h, h2, hx, hy, Int.neg_mul, Int.mul_neg]
      · have hx : (x.num.natAbs : Int) = x.num := by omega
        by_cases h2 : y.num < 0
        · have hy : (y.num.natAbs : Int) = -y.num := by omega
          simp [h, h2, hx, hy, Int.neg_mul, Int.mul_neg]
        · have hy : (y.num.natAbs : Int) = y.num := by omega
          simp [h, h2, hx, hy, Int.neg_mul, Int.mul_neg]
    rw [e, ← Rat.mul_def']
  · cases h
theorem Zwq {x y : Rat} {z : Rat × Int} (h : Zhh x y = some z) : ZFi x y = some z := by
  unfold Zhh at h; split at h
  · rename_i hh; obtain ⟨⟨a1, a2⟩, b1, b2⟩ := hh
    cases h
    unfold ZFi Z5c; rw [Ze]; by_cases h0 : y = 0
    · subst h0; rfl
    · rw [decide_eq_false h0, ZG, if_neg h0]; unfold ZAc; have hn := Ztj h0; have p1 := Zxb x.num.natAbs y.den; have p3 := Zxb x.den y.num.natAbs; have e1 : Zdb x.num.natAbs y.den = some (x.num.natAbs * y.den) := by unfold Zdb; rw [if_pos ⟨Zdc (by omega), Zdc (by omega)⟩]
      have e3 : Zdb x.den y.num.natAbs = some (x.den * y.num.natAbs) := by unfold Zdb; rw [if_pos ⟨Zdc (by omega), Zdc (by omega)⟩]
      rw [Ze, e1, Ze, Ze, e3, Ze]; unfold ZYb; rw [if_pos ⟨ZBd (by omega), ZBd (by omega), Nat.mul_ne_zero x.den_nz (by omega)⟩, Ze]; have e : sgn ((decide (x.num < 0)) != (decide (y.num < 0))) (x.num.natAbs * y.den) = if y.num < 0 then -(x.num * (y.den : Int)) else x.num * (y.den : Int) := by
        have eN : ((x.num.natAbs * y.den : Nat) : Int) = (x.num.natAbs : Int) * y.den := by simp
        unfold sgn; rw [eN]; by_cases h : x.num < 0
        · have hx : (x.num.natAbs : Int) = -x.num := by omega
          by_cases h2 : y.num < 0 <;> simp [h, h2, hx, Int.neg_mul]
        · have hx : (x.num.natAbs : Int) = x.num := by omega
          by_cases h2 : y.num < 0 <;> simp [h, h2, hx, Int.neg_mul]
      rw [e, ← ZXj h0]
  · cases h
theorem rbyF_eq {x y z : Rat} (h : rbyF x y = some z) : ZAi x y = some z := by
  unfold rbyF at h; split at h
  · rename_i hh
    cases h
    unfold ZAi Zhh; rw [if_pos hh, Ze]; split <;> rfl
  · cases h
theorem ZOq {x y : Rat} {z : Int} (h : ZVd x y = some z) : ZGj x y = some z := by
  unfold ZVd at h; split at h
  · rename_i hh
    cases h
    unfold ZGj Zxe Zrc; rw [if_pos hh, Ze, Ze]
  · cases h
theorem ZMn {x y : Rat} {z : Bool} (h : ZTe x y = some z) : Zki x y = some z := by
  unfold ZTe at h; split at h
  · rename_i hh
    cases h
    unfold Zki ZVd; rw [if_pos hh, Ze]; congr 1; rw [Bool.eq_iff_iff]; simp only [beq_iff_eq, decide_eq_true_iff, Int.sign_eq_zero_iff_zero, Rat.num_eq_zero]; constructor
    · intro h; grind
    · intro h; grind
  · cases h
theorem ZNq {x : Rat} {z : List UInt8} (h : ZUg x = some z) : ZIj x = some z := by
  unfold ZUg at h; split at h
  · rename_i hh; obtain ⟨h1, h2⟩ := hh
    cases h
    unfold ZIj Zwf; have l1 := ZUi (n := x.num.natAbs) (by omega); have l2 := ZUi (n := x.den) (by omega); rw [if_pos (ZBd h1), Ze]; have e0 : ifb (decide (x.num < 0)) (bnd (Z5c x) fun y136 => some (!(y136))) (some false) = some (decide (x.num < 0)) := by
      unfold Z5c; by_cases h : x.num < 0
      · have : x ≠ 0 := fun e => by subst e; simp at h
        rw [decide_eq_true h, ZH, Ze, decide_eq_false this]; rfl
      · rw [decide_eq_false h, ZG]
    rw [e0, Ze]; have e1 : ifb (decide (x.num < 0)) (bnd (Zec ([45] ++ Zub x.num.natAbs)) fun y80 => some (([45] : List UInt8) ++ Zub x.num.natAbs)) (some (Zub x.num.natAbs)) = some ((if x.num < 0 then [45] else []) ++ Zub x.num.natAbs) := by
      by_cases h : x.num < 0
      · rw [decide_eq_true h, ZH, Zde (by simp; omega), Ze, if_pos h]
      · rw [decide_eq_false h, ZG, if_neg h]; rfl
    rw [e1, Ze]; unfold txtQ ZAc ZEd; have l3 : ((if x.num < 0 then [45] else []) ++ Zub x.num.natAbs : List UInt8).length ≤ 4398046511105 := by
      rw [List.length_append]; split <;> simp <;> omega
    generalize ((if x.num < 0 then [45] else []) ++ Zub x.num.natAbs : List UInt8) = s at *; rw [Ze, ZUj, Ze, Ze, Zqm]; by_cases hd : x.den = 1
    · rw [hd]; simp [ifb, bnd]
    · have := x.den_nz; rw [decide_eq_true (by omega), ZH, Zde (by simp; omega), Ze, if_pos (ZBd h2), Ze, Zde (by simp; omega), Ze, Ze, if_neg hd]; simp
  · cases h
noncomputable def Zsg (x : Rat) (y : Rat) : Option (Bool) :=
 bnd (Zoe x) fun a =>
 bnd (ZUg y) fun b =>
 some (a == b)
set_option maxRecDepth 100000
theorem Zhj {k m : Nat} {x y : Rat} (h : sz k x) (h' : sz m y) (hk : k + m ≤ 1000000000) : Zxd x y = some (x + y) := by unfold Zxd; rw [if_pos ⟨h.sm (by omega), h'.sm (by omega)⟩]
theorem rsub_ok {k m : Nat} {x y : Rat} (h : sz k x) (h' : sz m y) (hk : k + m ≤ 1000000000) : Zxe x y = some (x - y) := by unfold Zxe; rw [if_pos ⟨h.sm (by omega), h'.sm (by omega)⟩]
theorem rmul_ok {k m : Nat} {x y : Rat} (h : sz k x) (h' : sz m y) (hk : k + m ≤ 1000000000) : Zkg x y = some (x * y) := by unfold Zkg; rw [if_pos ⟨h.sm (by omega), h'.sm (by omega)⟩]
theorem rby_ok {k m : Nat} {x y : Rat} (h : sz k x) (h' : sz m y) (hk : k + m ≤ 1000000000) (hy : y ≠ 0) : rbyF x y = some (x / y) := by unfold rbyF; rw [if_pos ⟨h.sm (by omega), h'.sm (by omega)⟩, if_neg hy]
theorem Zuk {k m : Nat} {x y : Rat} (h : sz k x) (h' : sz m y) (hk : k + m ≤ 1000000000) : ZVd x y = some (x - y).num.sign := by unfold ZVd; rw [if_pos ⟨h.sm (by omega), h'.sm (by omega)⟩]
theorem ZRk {k m : Nat} {x y : Rat} (h : sz k x) (h' : sz m y) (hk : k + m ≤ 1000000000) : ZTe x y = some (decide (x = y)) := by unfold ZTe; rw [if_pos ⟨h.sm (by omega), h'.sm (by omega)⟩]
theorem is1_ok {k : Nat} {x : Rat} (h : sz k x) (hk : k ≤ 1000000000) : Zsg x x = some true := by
  unfold Zsg Zoe ZUg; rw [if_pos (h.ok (by omega)), Ze, Ze]; simp
theorem Zpm : ZOd = some (0 : Rat) := by unfold ZOd ZQc; rw [Ze]; rfl
noncomputable def ZOf (log : (List (Rat × Rat))) : Option (Int) :=
 ifb (decide ((256 : Int) < (log.length : Int)))
 (some ((4 : Int)))
 (bnd (bnd (ZZ (fun s : Int => match s with
 | a =>
 (ifb (decide (a < (log.length : Int)))
 (bnd (idx log a) fun b =>
 bnd (bnd (Zse ([b.1])) fun c =>
 ifb (c)
 (some true)
 (bnd (Zvd ([b.2])) fun d =>
 some (!(d))))
 (fun (e : Bool) =>
 (ifb (e)
 (some (.inr ((.inl ((1 : Int))))))
 (bnd (chk .i64 (a + ((1 : Int)))) fun f =>
 some (.inl f)))))
 (some (.inr ((.inr (()))))))) Zba ((0 : Int)))
 (fun (p : (Int) ⊕ (Unit)) => match p with
 | .inl g =>
 (some ((.inr g)))
 | .inr (()) =>
 (some ((.inl (()))))))
 (fun (p : (Unit) ⊕ (Int)) => match p with
 | .inl (()) =>
 (some ((0 : Int)))
 | .inr h =>
 (some h)))
noncomputable def ZZg (plan : (List (Rat × Rat))) (rule : (Rat × Rat)) : Option (Int) :=
 bnd (ifb (((plan.length : Int)) == ((0 : Int)))
 (some true)
 (some (decide ((256 : Int) < (plan.length : Int)))))
 (fun (c : Bool) =>
 (ifb (c)
 (some ((4 : Int)))
 (bnd (bnd (ZZ (fun s : Int => match s with
 | a =>
 (ifb (decide (a < (plan.length : Int)))
 (bnd (idx plan a) fun b =>
 bnd (Zvd ([b.1, b.2])) fun d =>
 ifb (!(d))
 (some (.inr ((.inl ((1 : Int))))))
 (bnd (chk .i64 (a + ((1 : Int)))) fun e =>
 some (.inl e)))
 (some (.inr ((.inr (()))))))) Zba ((0 : Int)))
 (fun (p : (Int) ⊕ (Unit)) => match p with
 | .inl f =>
 (some ((.inr f)))
 | .inr (()) =>
 (some ((.inl (()))))))
 (fun (p : (Unit) ⊕ (Int)) => match p with
 | .inl (()) =>
 (bnd (Zse ([rule.1, rule.2])) fun g =>
 ifb (g)
 (some ((1 : Int)))
 (some ((0 : Int))))
 | .inr h =>
 (some h)))))
noncomputable def Z6g (plan : (List (Rat × Rat))) (rule : (Rat × Rat)) (log : (List (Rat × Rat))) : Option ((Int × Int) × Int) :=
 bnd (ZZg plan ((rule.1, rule.2))) fun g =>
 ifb (g != ((0 : Int)))
 (some ((((0 : Int), (0 : Int)), g)))
 (bnd (ZOf log) fun h =>
 ifb (h != ((0 : Int)))
 (some ((((0 : Int), (0 : Int)), h)))
 (bnd (bnd (ZZ (fun s : Rat × Rat × Rat × Int × Int => match s with
 | (m, i, n, a, e) =>
 (ifb (decide (e < (log.length : Int)))
 (bnd (bnd (idx log e) fun b =>
 bnd (Z1d b.1) fun o =>
 ifb (o)
 (bnd (Zfc i b.2) fun j =>
 bnd (Zfc n b.2) fun k =>
 bnd (bnd (Z9c j rule.2) fun q =>
 ifb (decide ((0 : Int) < q))
 (some true)
 (bnd (Z9c k rule.1) fun r =>
 some (decide ((0 : Int) < r))))
 (fun (t : Bool) =>
 (ifb (t)
 (some ((.inl ((a, (3 : Int))))))
 (some ((.inr (((0 : Rat), j, k, a))))))))
 (bnd (idx plan a) fun u =>
 bnd (ZUf b.1 u.1) fun v =>
 ifb (!(v))
 (some ((.inl ((a, (4 : Int))))))
 (bnd (Zfc m b.2) fun w =>
 bnd (bnd (ZZ (fun s : Rat × Int => match s with
 | (f, d) =>
 (bnd (idx plan d) fun x =>
 bnd (Z9c f x.2) fun y =>
 ifb (decide ((0 : Int) ≤ y))
 (bnd (idx plan d) fun z =>
 bnd (ZSc f z.2) fun l =>
 bnd (chk .i64 (d + ((1 : Int)))) fun c =>
 ifb (c == ((plan.length : Int)))
 (some (.inr ((.inl ((c, (1 : Int)))))))
 (bnd (bnd (Z1d l) fun A =>
 ifb (!(A))
 (bnd (idx plan c) fun B =>
 bnd (ZUf B.1 b.1) fun C =>
 some (!(C)))
 (some false))
 (fun (D : Bool) =>
 (ifb (D)
 (some (.inr ((.inl ((c, (4 : Int)))))))
 (some (.inl ((l, c))))))))
 (some (.inr ((.inr ((f, d)))))))) Zba ((w, a)))
 (fun (p : (Int × Int) ⊕ (Rat × Int)) => match p with
 | .inl ((E, F)) =>
 (some ((.inl ((E, F)))))
 | .inr ((G, H)) =>
 (some ((.inr ((G, H)))))))
 (fun (p : (Int × Int) ⊕ (Rat × Int)) => match p with
 | .inl ((I, J)) =>
 (some ((.inl ((I, J)))))
 | .inr ((K, L)) =>
 (some ((.inr ((K, i, (0 : Rat), L)))))))))
 (fun (p : (Int × Int) ⊕ (Rat × Rat × Rat × Int)) => match p with
 | .inl ((M, N)) =>
 (some (.inr ((M, N))))
 | .inr ((O, P, Q, R)) =>
 (bnd (chk .i64 (e + ((1 : Int)))) fun S =>
 some (.inl ((O, P, Q, R, S))))))
 (some (.inr ((a, (2 : Int))))))) Zba (((0 : Rat), (0 : Rat), (0 : Rat), (0 : Int), (0 : Int))))
 (fun (p : Int × Int) => match p with
 | (T, U) =>
 (some ((T, U)))))
 (fun (p : Int × Int) => match p with
 | (V, W) =>
 (some (((V, W), (0 : Int)))))))
noncomputable def Z6f (l : (List ((Int × Int) × (Int × Int)))) : Option ((List (Rat × Rat)) × (List (Rat × Rat))) :=
 bnd (bnd (ZZ (fun s : (List (Rat × Rat)) × (List (Rat × Rat)) × Int => match s with
 | (b, c, d) =>
 (ifb (decide (d < (l.length : Int)))
 (bnd (idx l d) fun a =>
 bnd (Z9b ((a.1.1, a.1.2))) fun e =>
 bnd (Z9b ((a.2.1, a.2.2))) fun f =>
 bnd (Z8a 112 (b ++ [(e, f)])) fun o =>
 bnd (ZTc ((a.1.1, a.1.2))) fun g =>
 bnd (ZTc ((a.2.1, a.2.2))) fun h =>
 bnd (Z8a 112 (c ++ [(g, h)])) fun q =>
 bnd (chk .i64 (d + ((1 : Int)))) fun i =>
 some (.inl (((b ++ [(e, f)]), (c ++ [(g, h)]), i))))
 (some (.inr ((b, c)))))) Zba ((([] : (List (Rat × Rat))), ([] : (List (Rat × Rat))), (0 : Int))))
 (fun (p : (List (Rat × Rat)) × (List (Rat × Rat))) => match p with
 | (j, k) =>
 (some ((j, k)))))
 (fun (p : (List (Rat × Rat)) × (List (Rat × Rat))) => match p with
 | (m, n) =>
 (some ((m, n))))
noncomputable def ZLf (l : (List ((Int × Int) × (Int × Int)))) : Option ((List (Rat × Rat))) :=
 bnd (bnd (ZZ (fun s : (List (Rat × Rat)) × Int => match s with
 | (b, c) =>
 (ifb (decide (c < (l.length : Int)))
 (bnd (idx l c) fun a =>
 bnd (Z9b ((a.1.1, a.1.2))) fun d =>
 bnd (Z9b ((a.2.1, a.2.2))) fun e =>
 bnd (Z8a 112 (b ++ [(d, e)])) fun i =>
 bnd (chk .i64 (c + ((1 : Int)))) fun f =>
 some (.inl (((b ++ [(d, e)]), f))))
 (some (.inr b)))) Zba ((([] : (List (Rat × Rat))), (0 : Int))))
 (fun (g : (List (Rat × Rat))) =>
 (some g)))
 (fun (h : (List (Rat × Rat))) =>
 (some h))
noncomputable def Zmg (l : (List (Rat × Rat))) : Option (Int) :=
 ifb (decide ((256 : Int) < (l.length : Int)))
 (some ((4 : Int)))
 (bnd (bnd (ZZ (fun s : Int => match s with
 | a =>
 (ifb (decide (a < (l.length : Int)))
 (bnd (bnd (idx l a) fun b =>
 bnd (Zrc b.1) fun c =>
 ifb (decide (c < (0 : Int)))
 (some true)
 (bnd (idx l a) fun d =>
 bnd (Zrc d.2) fun e =>
 some (decide (e ≤ (0 : Int)))))
 (fun (f : Bool) =>
 (ifb (f)
 (some (.inr ((.inl ((1 : Int))))))
 (bnd (chk .i64 (a + ((1 : Int)))) fun g =>
 some (.inl g)))))
 (some (.inr ((.inr (()))))))) Zba ((0 : Int)))
 (fun (p : (Int) ⊕ (Unit)) => match p with
 | .inl h =>
 (some ((.inr h)))
 | .inr (()) =>
 (some ((.inl (()))))))
 (fun (p : (Unit) ⊕ (Int)) => match p with
 | .inl (()) =>
 (some ((0 : Int)))
 | .inr i =>
 (some i)))
set_option maxRecDepth 100000
def Zcc {E S R : Type} (f : E → S → R ⊕ S) (fin : S → R) : List E → S → R
  | [], s => fin s
  | e :: l, s => match f e s with
    | .inl r => r
    | .inr s' => Zcc f fin l s'
theorem ZPn {E S R σ : Type} {body : σ → Option (σ ⊕ R)} (l : List E) (enc : S → Nat → σ) (f : E → S → R ⊕ S) (fin : S → R) (I : Nat → S → Prop) {s0 : S} {s : σ} (hs : enc s0 0 = s) (h0 : I 0 s0) (hlen : l.length < 2 ^ 64)
    (h1 : ∀ i s r, (hi : i < l.length) → I i s → f l[i] s = .inl r → body (enc s i) = some (.inr r)) (h2 : ∀ i s s', (hi : i < l.length) → I i s → f l[i] s = .inr s' → body (enc s i) = some (.inl (enc s' (i + 1))) ∧ I (i + 1) s')
    (he : ∀ s, I l.length s → body (enc s l.length) = some (.inr (fin s))) : ZZ body Zba s = some (Zcc f fin l s0) := by
  have key : ∀ m F i s, i + m = l.length → m < F → I i s → ZZ body F (enc s i) = some (Zcc f fin (l.drop i) s) := by
    intro m
    induction m with
    | zero =>
      intro F i s hi hF hI; obtain ⟨F, rfl⟩ : ∃ g, F = g + 1 := ⟨F - 1, by omega⟩; obtain rfl : i = l.length := by omega
      unfold ZZ; rw [he s hI, Ze, List.drop_length]; rfl
    | succ m ih =>
      intro F i s hi hF hI; obtain ⟨F, rfl⟩ : ∃ g, F = g + 1 := ⟨F - 1, by omega⟩; have hi' : i < l.length := by omega
      unfold ZZ; rw [List.drop_eq_getElem_cons hi']; unfold Zcc
      cases hf : f l[i] s with
      | inl r => rw [h1 i s r hi' hI hf, Ze]
      | inr s' =>
        have := h2 i s s' hi' hI hf; rw [this.1, Ze]; exact ih F (i + 1) s' (by omega) (by omega) this.2
  rw [← hs]; exact key l.length Zba 0 s0 (by omega) (ZJa (by omega)) h0
theorem Z5h {E R : Type} {body : Int → Option (Int ⊕ (R ⊕ Unit))} (l : List E) (p : E → Bool) (r : R) (hlen : l.length < 2 ^ 62) (h1 : ∀ i, (hi : i < l.length) → body (i : Int) = if p l[i] then some (.inr (.inl r)) else some (.inl ((i : Int) + 1)))
    (he : body (l.length : Int) = some (.inr (.inr ()))) : ZZ body Zba 0 = some (if l.any p then .inl r else .inr ()) := by
  by_cases h : l.any p = true
  · obtain ⟨m, hm, g1, g2⟩ := Zqp h; rw [if_pos h]; refine Zag (fun k => (k : Int)) m rfl (by omega) (fun k hk => ?_) ?_
    · rw [h1 k (by omega), g2 k (by omega) hk, if_neg (by simp)]; rfl
    · rw [h1 m hm, g1, if_pos rfl]
  · have h' : l.any p = false := by simpa using h
    have g := Zwm h'; rw [if_neg h]; refine Zag (fun k => (k : Int)) l.length rfl (by omega) (fun k hk => ?_) ?_
    · rw [h1 k hk, g k hk, if_neg (by simp)]; rfl
    · exact he
abbrev RR2 := Rat × Rat
def ZUb (x : RR2) : Bool := !(decide (0 < x.1) && decide (0 < x.2))
def Z2b (x : RR2) : Bool := decide (x.1 < 0) || !decide (0 < x.2)
def Zob (plan : List RR2) (rule : RR2) : Int := if plan.length = 0 ∨ 256 < plan.length then 4 else if plan.any ZUb then 1 else if decide (rule.1 < 0) || decide (rule.2 < 0) then 1 else 0
def ZAb (log : List RR2) : Int := if 256 < log.length then 4 else if log.any Z2b then 1 else 0
theorem above2 (x y : Rat) : Zvd [x, y] = some (decide (0 < x) && decide (0 < y)) := by rw [ZDm _ (by simp)]; simp
theorem above1' (x : Rat) : Zvd [x] = some (decide (0 < x)) := by rw [ZDm _ (by simp)]; simp
theorem below2 (x y : Rat) : Zse [x, y] = some (decide (x < 0) || decide (y < 0)) := by rw [Zjl _ (by simp)]; simp
theorem below1' (x : Rat) : Zse [x] = some (decide (x < 0)) := by rw [Zjl _ (by simp)]; simp
theorem Zhq (plan : List RR2) (rule : RR2) : ZZg plan rule = some (Zob plan rule) := by
  unfold ZZg Zob; by_cases h0 : plan.length = 0
  · rw [if_pos (.inl h0), h0]; rfl
  have e0 : ((plan.length : Int) == 0) = false := by
    rw [Bool.eq_false_iff]; intro h; rw [beq_iff_eq] at h; omega
  rw [e0, ZG, Ze]; by_cases h2 : 256 < plan.length
  · rw [if_pos (.inr h2), decide_eq_true (by omega), ZH]
  rw [if_neg (by omega), decide_eq_false (by omega), ZG]; have hloop : ∀ {body : Int → Option (Int ⊕ (Int ⊕ Unit))}, (∀ i, (hi : i < plan.length) → body (i : Int) = if ZUb plan[i] then some (.inr (.inl 1)) else some (.inl ((i : Int) + 1))) → body (plan.length : Int) = some (.inr (.inr ())) → ZZ body Zba 0 = some (if plan.any ZUb then .inl 1 else .inr ()) := fun h1 he => Z5h plan ZUb 1 (by omega) h1 he; refine Zib (y := if plan.any ZUb then .inr (1 : Int) else .inl ()) (Zib (hloop (fun i hi => ?_) ?_) ?_) ?_
  · simp only; rw [decide_eq_true (by omega), ZH, Zda hi, Ze, above2, Ze]; unfold ZUb; split
    · rename_i hb; rw [hb, ZH]
    · rename_i hb; have hb' : (!(decide (0 < plan[i].1) && decide (0 < plan[i].2))) = false := by simpa using hb
      rw [hb', ZG, Zwa (by omega) (by omega), Ze]
  · simp only; rw [decide_eq_false (by omega), ZG]
  · generalize plan.any ZUb = b; cases b <;> rfl
  · cases hbs : plan.any ZUb
    · rw [if_neg (by simp), if_neg (by simp)]; simp only; rw [below2, Ze]; generalize (decide (rule.1 < 0) || decide (rule.2 < 0)) = b
      cases b <;> rfl
    · rfl
theorem Zzk (log : List RR2) : ZOf log = some (ZAb log) := by
  unfold ZOf ZAb; by_cases h2 : 256 < log.length
  · rw [if_pos h2, decide_eq_true (by omega), ZH]
  rw [if_neg h2, decide_eq_false (by omega), ZG]; have hloop : ∀ {body : Int → Option (Int ⊕ (Int ⊕ Unit))}, (∀ i, (hi : i < log.length) → body (i : Int) = if Z2b log[i] then some (.inr (.inl 1)) else some (.inl ((i : Int) + 1))) → body (log.length : Int) = some (.inr (.inr ())) → ZZ body Zba 0 = some (if log.any Z2b then .inl 1 else .inr ()) := fun h1 he => Z5h log Z2b 1 (by omega) h1 he; refine Zib (y := if log.any Z2b then .inr (1 : Int) else .inl ()) (Zib (hloop (fun i hi => ?_) ?_) ?_) ?_
  · simp only; rw [decide_eq_true (by omega), ZH, Zda hi, Ze]; have e : (bnd (Zse ([log[i].1])) fun y109 => ifb (y109) (some true) (bnd (Zvd ([log[i].2])) fun y130 => some (!(y130)))) = some (Z2b log[i]) := by
      rw [below1', Ze, above1', Ze]; unfold Z2b
      cases decide (log[i].1 < 0) <;> rfl
    rw [e, Ze]; split
    · rename_i hb; rw [hb, ZH]
    · rename_i hb; have hb' : Z2b log[i] = false := by simpa using hb
      rw [hb', ZG, Zwa (by omega) (by omega), Ze]
  · simp only; rw [decide_eq_false (by omega), ZG]
  · generalize log.any Z2b = b; cases b <;> rfl
  · generalize log.any Z2b = b; cases b <;> rfl
theorem Z6l (log : List RR2) : Zmg log = some (ZAb log) := by
  unfold Zmg ZAb Zrc; by_cases h2 : 256 < log.length
  · rw [if_pos h2, decide_eq_true (by omega), ZH]
  rw [if_neg h2, decide_eq_false (by omega), ZG]; have hloop : ∀ {body : Int → Option (Int ⊕ (Int ⊕ Unit))}, (∀ i, (hi : i < log.length) → body (i : Int) = if Z2b log[i] then some (.inr (.inl 1)) else some (.inl ((i : Int) + 1))) → body (log.length : Int) = some (.inr (.inr ())) → ZZ body Zba 0 = some (if log.any Z2b then .inl 1 else .inr ()) := fun h1 he => Z5h log Z2b 1 (by omega) h1 he; refine Zib (y := if log.any Z2b then .inr (1 : Int) else .inl ()) (Zib (hloop (fun i hi => ?_) ?_) ?_) ?_
  · simp only; rw [decide_eq_true (by omega), ZH, Zda hi]; simp only [Ze]; have s1 : decide (log[i].1.num.sign < 0) = decide (log[i].1 < 0) := decide_eq_decide.2 ZLi; have s2 : decide (log[i].2.num.sign ≤ 0) = !decide (0 < log[i].2) := by
      rw [Bool.eq_iff_iff]; simp only [decide_eq_true_iff, Bool.not_eq_true', decide_eq_false_iff_not, Z9j]; grind
    have e : ifb (decide (log[i].1.num.sign < 0)) (some true) (some (decide (log[i].2.num.sign ≤ 0))) = some (Z2b log[i]) := by
      rw [s1, s2]; unfold Z2b
      cases decide (log[i].1 < 0) <;> rfl
    rw [e, Ze]; split
    · rename_i hb; rw [hb, ZH]
    · rename_i hb; have hb' : Z2b log[i] = false := by simpa using hb
      rw [hb', ZG, Zwa (by omega) (by omega), Ze]
  · simp only; rw [decide_eq_false (by omega), ZG]
  · generalize log.any Z2b = b; cases b <;> rfl
  · generalize log.any Z2b = b; cases b <;> rfl
def Z9a (l : List ((Int × Int) × (Int × Int))) : List RR2 := l.map fun x => (Znb x.1, Znb x.2)
theorem Zom (l : List ((Int × Int) × (Int × Int))) (hl : l.length ≤ 1000) : Z6f l = some (Z9a l, Z9a l) := by
  unfold Z6f Z9b ZTc; refine Zib (y := (Z9a l, Z9a l)) (Zib (y := (Z9a l, Z9a l)) (Zag (fun k => (Z9a (l.take k), Z9a (l.take k), (k : Int))) l.length rfl (by omega) (fun k hk => ?_) ?_) rfl) rfl
  · have e : Z9a (l.take (k + 1)) = Z9a (l.take k) ++ [(Znb l[k].1, Znb l[k].2)] := by
      unfold Z9a; rw [List.take_succ_eq_append_getElem hk, List.map_append]; rfl
    have hlen : (Z9a (l.take k)).length = k := by unfold Z9a; simp; omega
    have hroom : ∀ x, Z8a 112 (Z9a (l.take k) ++ [x]) = some () := fun x => by unfold Z8a; rw [if_pos (by simp; omega)]
    simp only; rw [decide_eq_true (by omega), ZH, Zda hk, Ze, Ze, Ze, hroom, Ze, Ze, Ze, hroom, Ze, Zwa (by omega) (by omega), Ze, e]; rfl
  · simp only; rw [decide_eq_false (by omega), ZG, List.take_length]
theorem Z1q (l : List ((Int × Int) × (Int × Int))) (hl : l.length ≤ 1000) : ZLf l = some (Z9a l) := by
  unfold ZLf Z9b; refine Zib (y := Z9a l) (Zib (y := Z9a l) (Zag (fun k => (Z9a (l.take k), (k : Int))) l.length rfl (by omega) (fun k hk => ?_) ?_) rfl) rfl
  · have e : Z9a (l.take (k + 1)) = Z9a (l.take k) ++ [(Znb l[k].1, Znb l[k].2)] := by
      unfold Z9a; rw [List.take_succ_eq_append_getElem hk, List.map_append]; rfl
    have hlen : (Z9a (l.take k)).length = k := by unfold Z9a; simp; omega
    have hroom : ∀ x, Z8a 112 (Z9a (l.take k) ++ [x]) = some () := fun x => by unfold Z8a; rw [if_pos (by simp; omega)]
    simp only; rw [decide_eq_true (by omega), ZH, Zda hk, Ze, Ze, Ze, hroom, Ze, Zwa (by omega) (by omega), Ze, e]; rfl
  · simp only; rw [decide_eq_false (by omega), ZG, List.take_length]
set_option maxRecDepth 100000
abbrev pAt (plan : List RR2) (i : Nat) : RR2 := plan.getD i (0, 0)
def adv (plan : List RR2) (sp : Rat) : Nat → Rat → Nat → (Int × Int) ⊕ (Rat × Nat)
  | 0, d, due => .inr (d, due)
  | f + 1, d, due =>
    if (pAt plan due).2 ≤ d then
      if due + 1 = plan.length then .inl (((due + 1 : Nat) : Int), 1)
      else if d - (pAt plan due).2 ≠ 0 ∧ (pAt plan (due + 1)).1 ≠ sp then .inl (((due + 1 : Nat) : Int), 4)
      else adv plan sp f (d - (pAt plan due).2) (due + 1)
    else .inr (d, due)
structure JS where
  done : Rat
  all : Rat
  one : Rat
  due : Nat
def jst (plan : List RR2) (rule : RR2) (e : RR2) (s : JS) : (Int × Int) ⊕ JS :=
  if e.1 = 0 then
    if rule.2 < s.all + e.2 ∨ rule.1 < s.one + e.2 then .inl ((s.due : Int), 3) else .inr ⟨0, s.all + e.2, s.one + e.2, s.due⟩
  else if e.1 ≠ (pAt plan s.due).1 then .inl ((s.due : Int), 4)
  else match adv plan e.1 (plan.length - s.due) (s.done + e.2) s.due with
    | .inl r => .inl r
    | .inr (d, due) => .inr ⟨d, s.all, 0, due⟩
def jend (s : JS) : Int × Int := ((s.due : Int), 2)
def ZNg (plan : List RR2) (rule : RR2) (log : List RR2) : Int × Int := Zcc (jst plan rule) jend log ⟨0, 0, 0, 0⟩
def szL (l : List RR2) : Prop := ∀ i, (h : i < l.length) → sz 64 l[i].1 ∧ sz 64 l[i].2
theorem szL.at {l : List RR2} (h : szL l) {i : Nat} (hi : i < l.length) : sz 64 (pAt l i).1 ∧ sz 64 (pAt l i).2 := by unfold pAt; rw [Z0c hi]; exact h i hi
theorem Zxi {x y : Rat} : (0 ≤ (x - y).num.sign) ↔ y ≤ x := by rw [Z0p]; constructor <;> intro h <;> grind
theorem ZYe {x y : Rat} : (0 < (x - y).num.sign) ↔ y < x := by rw [Zsl]; constructor <;> intro h <;> grind
theorem Zan {plan : List RR2} (hp : szL plan) (sp : Rat) : ∀ f d due c, due + f = plan.length → 0 < f → sz c d → match adv plan sp f d due with
    | .inl r => True
    | .inr (d', due') => due ≤ due' ∧ due' < plan.length ∧ sz (c + 65 * (due' - due)) d'
  | 0, _, _, _, _, h, _ => by omega
  | f + 1, d, due, c, hf, _, hd => by
    unfold adv
    by_cases h1 : (pAt plan due).2 ≤ d
    · rw [if_pos h1]
      by_cases h2 : due + 1 = plan.length
      · rw [if_pos h2]; trivial
      · rw [if_neg h2]
        by_cases h3 : d - (pAt plan due).2 ≠ 0 ∧ (pAt plan (due + 1)).1 ≠ sp
        · rw [if_pos h3]; trivial
        · rw [if_neg h3]
          have z := ZRh hd (hp.at (i := due) (by omega)).2
          have ih := Zan hp sp f _ (due + 1) (c + 65) (by omega) (by omega) (z.mono (by omega))
          cases ha : adv plan sp f (d - (pAt plan due).2) (due + 1) with
          | inl r => trivial
          | inr q =>
            rw [ha] at ih
            obtain ⟨d', due'⟩ := q
            exact ⟨by omega, ih.2.1, ih.2.2.mono (by omega)⟩
    · rw [if_neg h1]
      exact ⟨Nat.le_refl _, by omega, hd.mono (by omega)⟩
theorem Zal {plan : List RR2} (hp : szL plan) (hl : plan.length ≤ 256) {sp : Rat} {body : Rat × Int → Option ((Rat × Int) ⊕ ((Int × Int) ⊕ (Rat × Int)))}
    (hb : ∀ d (due : Nat), due < plan.length → sz 1000000 d → body (d, (due : Int)) =
      if (pAt plan due).2 ≤ d then
        if due + 1 = plan.length then some (.inr (.inl (((due + 1 : Nat) : Int), 1)))
        else if d - (pAt plan due).2 ≠ 0 ∧ (pAt plan (due + 1)).1 ≠ sp then some (.inr (.inl (((due + 1 : Nat) : Int), 4)))
        else some (.inl (d - (pAt plan due).2, ((due + 1 : Nat) : Int)))
      else some (.inr (.inr (d, (due : Int))))) :
    ∀ f F d due c, due + f = plan.length → 0 < f → f < F → sz c d → c + 65 * f ≤ 1000000 → ZZ body F (d, (due : Int)) = some (match adv plan sp f d due with
      | .inl r => .inl r
      | .inr (d', due') => .inr (d', (due' : Int)))
  | 0, _, _, _, _, _, h, _, _, _ => by omega
  | f + 1, F, d, due, c, hf, _, hF, hd, hc => by
    obtain ⟨F, rfl⟩ : ∃ g, F = g + 1 := ⟨F - 1, by omega⟩
    unfold ZZ adv
    rw [hb d due (by omega) (hd.mono (by omega))]
    by_cases h1 : (pAt plan due).2 ≤ d
    · rw [if_pos h1, if_pos h1]
      by_cases h2 : due + 1 = plan.length
      · rw [if_pos h2, if_pos h2, Ze]
      · rw [if_neg h2, if_neg h2]
        by_cases h3 : d - (pAt plan due).2 ≠ 0 ∧ (pAt plan (due + 1)).1 ≠ sp
        · rw [if_pos h3, if_pos h3, Ze]
        · rw [if_neg h3, if_neg h3, Ze]
          have z := ZRh hd (hp.at (i := due) (by omega)).2
          exact Zal hp hl hb f F _ (due + 1) (c + 65) (by omega) (by omega) (by omega) (z.mono (by omega)) (by omega)
    · rw [if_neg h1, if_neg h1, Ze]
def JI (plan : List RR2) (i : Nat) (s : JS) : Prop := sz (65 * (i + s.due) + 1) s.done ∧ sz (65 * i + 1) s.all ∧ sz (65 * i + 1) s.one ∧ s.due < plan.length
theorem JI.step {plan : List RR2} (hp : szL plan) {rule : RR2} {i : Nat} {e : RR2} {s s' : JS} (he : sz 64 e.1 ∧ sz 64 e.2) (h : JI plan i s) (hs : jst plan rule e s = .inr s') : JI plan (i + 1) s' := by
  obtain ⟨h1, h2, h3, h4⟩ := h; unfold jst at hs; split at hs
  · split at hs
    · cases hs
    · cases hs
      exact ⟨Zpe.mono (by omega), (Zsd h2 he.2).mono (by omega), (Zsd h3 he.2).mono (by omega), h4⟩
  · split at hs
    · cases hs
    · have := Zan hp e.1 (plan.length - s.due) (s.done + e.2) s.due _ (by omega) (by omega) (Zsd h1 he.2); split at hs
      · cases hs
      · rename_i d due ha
        cases hs
        rw [ha] at this; exact ⟨this.2.2.mono (by have := this.1; simp only; omega), h2.mono (by omega), Zpe.mono (by omega), this.2.1⟩
set_option maxRecDepth 100000
theorem Zkn {E S R σ : Type} {body : σ → Option (σ ⊕ R)} (l : List E) (enc : S → Nat → σ) (f : E → S → R ⊕ S) (fin : S → R) (I : Nat → S → Prop) {s0 : S} {s : σ} (hs : enc s0 0 = s) (h0 : I 0 s0) (hlen : l.length < 2 ^ 64)
    (h1 : ∀ i s, (hi : i < l.length) → I i s → body (enc s i) = some (match f l[i] s with | .inl r => .inr r | .inr s' => .inl (enc s' (i + 1)))) (h2 : ∀ i s s', (hi : i < l.length) → I i s → f l[i] s = .inr s' → I (i + 1) s')
    (he : ∀ s, I l.length s → body (enc s l.length) = some (.inr (fin s))) : ZZ body Zba s = some (Zcc f fin l s0) :=
  ZPn l enc f fin I hs h0 hlen (fun i s r hi hI hf => by rw [h1 i s hi hI, hf]) (fun i s s' hi hI hf => ⟨by rw [h1 i s hi hI, hf], h2 i s s' hi hI hf⟩) he
theorem Znq {plan : List RR2} {rule : RR2} {log : List RR2} (hp : szL plan) (hl : szL log) (hr : sz 64 rule.1 ∧ sz 64 rule.2) :
    Z6g plan rule log = some (if Zob plan rule ≠ 0 then ((0, 0), Zob plan rule) else if ZAb log ≠ 0 then ((0, 0), ZAb log) else (ZNg plan rule log, 0)) := by
  unfold Z6g; rw [Zhq, Zzk, Ze]; by_cases c1 : Zob plan (rule.1, rule.2) = 0
  · have c1' : Zob plan rule = 0 := c1; have b1 : (Zob plan (rule.1, rule.2) != 0) = false := by simpa using c1
    rw [b1, ZG, Ze, if_neg (by rw [c1']; simp)]; by_cases c2 : ZAb log = 0
    · have b2 : (ZAb log != 0) = false := by simpa using c2
      have hP : 0 < plan.length ∧ plan.length ≤ 256 := by
        unfold Zob at c1'; split at c1'
        · simp at c1'
        · omega
      have hL : log.length ≤ 256 := by
        unfold ZAb at c2; split at c2
        · simp at c2
        · omega
      rw [b2, ZG, if_neg (by rw [c2]; simp)]; refine Zib (y := ZNg plan rule log) (Zib (y := ZNg plan rule log) (Zkn log (fun s i => (s.done, s.all, s.one, (s.due : Int), (i : Int))) (jst plan rule) jend (JI plan) (s0 := ⟨0, 0, 0, 0⟩) rfl ⟨Zpe, Zpe, Zpe, hP.1⟩ (by omega) (fun i s hi hI => ?_) (fun i s s' hi hI hf => hI.step hp (hl i hi) hf) (fun s hI => ?_)) ?_) ?_
      · obtain ⟨z1, z2, z3, hd⟩ := hI; have ze := hl i hi; simp only; rw [decide_eq_true (by omega), ZH, Zda hi, Ze]; refine Zib (y := match jst plan rule log[i] s with | .inl r => .inl r | .inr s' => .inr (s'.done, s'.all, s'.one, (s'.due : Int))) ?_ ?_
        · have q0 : ∀ x : Rat, Z1d x = some (decide (x = 0)) := fun _ => rfl; unfold jst; rw [q0, Ze]; by_cases e0 : log[i].1 = 0
          · have w2 := Zsd z2 ze.2; have w3 := Zsd z3 ze.2; rw [decide_eq_true e0, ZH, ZNh z2 ze.2 (by omega), Ze, ZNh z3 ze.2 (by omega), Ze, if_pos e0, ZVj w2 hr.2 (by omega), Ze, ZVj w3 hr.1 (by omega), Ze]; by_cases h1 : rule.2 < s.all + log[i].2
            · rw [decide_eq_true (ZYe.2 h1), ZH, Ze, ZH, if_pos (.inl h1)]
            · rw [decide_eq_false (fun h => h1 (ZYe.1 h)), ZG, Ze]; by_cases h2 : rule.1 < s.one + log[i].2
              · rw [decide_eq_true (ZYe.2 h2), ZH, if_pos (.inr h2)]
              · rw [decide_eq_false (fun h => h2 (ZYe.1 h)), ZG, if_neg (fun h => h.elim h1 h2)]
          · have ga := Z0c (l := plan) (d := ((0 : Rat), (0 : Rat))) hd; rw [decide_eq_false e0, ZG, if_neg e0, Zda hd, Ze]; have qs : ∀ x y : Rat, ZUf x y = some (decide (x = y)) := fun _ _ => rfl; rw [qs, Ze, ← ga]; by_cases h1 : log[i].1 = (pAt plan s.due).1
            · have w1 := Zsd z1 ze.2; rw [decide_eq_true h1, Bool.not_true, ZG, if_neg (fun h => h h1), ZNh z1 ze.2 (by omega), Ze]; refine Zib (y := match adv plan log[i].1 (plan.length - s.due) (s.done + log[i].2) s.due with | .inl r => .inl r | .inr (d', due') => .inr (d', (due' : Int))) (Zib (Zal hp hP.2 (sp := log[i].1) (fun d due hdue hzd => ?_) (plan.length - s.due) Zba _ s.due _ (by omega) (by omega) (ZJa (by omega)) w1 (by omega)) ?_) ?_
              · have gb := Z0c (l := plan) (d := ((0 : Rat), (0 : Rat))) hdue; have zb := hp.at hdue; simp only; rw [Zda hdue, Ze, ← gb, ZVj hzd zb.2 (by omega), Ze]; by_cases k1 : (pAt plan due).2 ≤ d
                · rw [decide_eq_true (Zxi.2 k1), ZH, if_pos k1, Ze, qsub_ok hzd zb.2 (by omega), Ze, Zwa (by omega) (by omega), Ze]; by_cases k2 : due + 1 = plan.length
                  · have : ((due : Int) + 1 == (plan.length : Int)) = true := by rw [beq_iff_eq]; omega
                    rw [this, ZH, if_pos k2]; rfl
                  · have : ((due : Int) + 1 == (plan.length : Int)) = false := by rw [Bool.eq_false_iff]; intro h; rw [beq_iff_eq] at h; omega
                    rw [this, ZG, if_neg k2, q0, Ze]; have gc := Z0c (l := plan) (d := ((0 : Rat), (0 : Rat))) (i := due + 1) (by omega); rw [show (due : Int) + 1 = ((due + 1 : Nat) : Int) from rfl, Zda (by omega), Ze, ← gc, qs, Ze]; by_cases k3 : d - (pAt plan due).2 = 0
                    · rw [decide_eq_true k3, Bool.not_true, ZG, Ze, ZG, if_neg (fun h => h.1 k3)]
                    · rw [decide_eq_false k3, Bool.not_false, ZH, Ze]; by_cases k4 : (pAt plan (due + 1)).1 = log[i].1
                      · rw [decide_eq_true k4, Bool.not_true, ZG, if_neg (fun h => h.2 k4)]
                      · rw [decide_eq_false k4, Bool.not_false, ZH, if_pos ⟨k3, k4⟩]
                · rw [decide_eq_false (fun h => k1 (Zxi.1 h)), ZG, if_neg k1]
              · cases adv plan log[i].1 (plan.length - s.due) (s.done + log[i].2) s.due with
                | inl r => rfl
                | inr q => rfl
              · cases adv plan log[i].1 (plan.length - s.due) (s.done + log[i].2) s.due with
                | inl r => rfl
                | inr q => rfl
            · rw [decide_eq_false h1, Bool.not_false, ZH, if_pos h1]
        · cases jst plan rule log[i] s with
          | inl r => rfl
          | inr s' =>
            simp only; rw [Zwa (by omega) (by omega), Ze]; rfl
      · simp only; rw [decide_eq_false (by omega), ZG]; rfl
      · rfl
      · rfl
    · have b2 : (ZAb log != 0) = true := by simpa using c2
      rw [b2, ZH, if_pos c2]
  · have c1' : Zob plan rule ≠ 0 := c1; have b1 : (Zob plan (rule.1, rule.2) != 0) = true := by simpa using c1
    rw [b1, ZH, if_pos c1']
set_option maxRecDepth 100000
theorem Z7l {E S R : Type} {f : E → S → R ⊕ S} {fin : S → R} {e : E} {l : List E} {s : S} {r : R} (h : f e s = .inl r) : Zcc f fin (e :: l) s = r := by rw [Zcc, h]
theorem Z1m {E S R : Type} {f : E → S → R ⊕ S} {fin : S → R} {e : E} {l : List E} {s s' : S} (h : f e s = .inr s') : Zcc f fin (e :: l) s = Zcc f fin l s' := by rw [Zcc, h]
theorem Zpn {l : List ((Int × Int) × (Int × Int))} (h : ∀ x ∈ l, i64 x.1 ∧ i64 x.2) : szL (Z9a l) := fun i hi => by
  have hi' : i < l.length := by
    have : (Z9a l).length = l.length := List.length_map ..; omega
  have e : (Z9a l)[i] = (Znb l[i].1, Znb l[i].2) := List.getElem_map ..; rw [e]; have := h _ (List.getElem_mem hi'); exact ⟨ZAj this.1, ZAj this.2⟩
theorem szL.take {l : List RR2} (h : szL l) (k : Nat) : szL (l.take k) := fun i hi => by
  have hi' : i < l.length := by rw [List.length_take] at hi; omega
  rw [List.getElem_take]
  exact h i hi'
noncomputable def Zdf (log : (List (Rat × Rat))) : Option (Rat × Int) :=
 bnd (ZOf log) fun b =>
 ifb (b != ((0 : Int)))
 (some (((0 : Rat), b)))
 (bnd (bnd (ZZ (fun s : Rat × Int => match s with
 | (c, a) =>
 (ifb (decide (a < (log.length : Int)))
 (bnd (idx log a) fun d =>
 bnd (Zsc d.1 d.2) fun e =>
 bnd (Zfc c e) fun f =>
 bnd (chk .i64 (a + ((1 : Int)))) fun g =>
 some (.inl ((f, g))))
 (some (.inr c)))) Zba (((0 : Rat), (0 : Int))))
 (fun (h : Rat) =>
 (some h)))
 (fun (i : Rat) =>
 (bnd (ZYc ((60 : Int))) fun j =>
 bnd (ZAe i j) fun k =>
 some ((k, (0 : Int))))))
noncomputable def ZLg (log : (List (Rat × Rat))) : Option (Rat) :=
 bnd (ZOd ) fun c =>
 bnd (bnd (ZZ (fun s : Rat × Int => match s with
 | (b, a) =>
 (ifb (decide (a < (log.length : Int)))
 (bnd (idx log a) fun d =>
 bnd (idx log a) fun e =>
 bnd (Zkg d.1 e.2) fun f =>
 bnd (Zxd b f) fun g =>
 bnd (chk .i64 (a + ((1 : Int)))) fun h =>
 some (.inl ((g, h))))
 (some (.inr b)))) Zba ((c, (0 : Int))))
 (fun (i : Rat) =>
 (some i)))
 (fun (j : Rat) =>
 (bnd (ZQc ((60 : Int))) fun k =>
 bnd (rbyF j k) fun l =>
 some l))
noncomputable def Zzh (plan : (List (Rat × Rat))) (single : Rat) (all : Rat) (log : (List (Rat × Rat))) : Option (Int × Int × Int) :=
 bnd (ifb (decide ((plan.length : Int) < (1 : Int)))
 (some true)
 (some (decide ((256 : Int) < (plan.length : Int)))))
 (fun (o : Bool) =>
 (ifb (o)
 (some (((0 : Int), (0 : Int), (4 : Int))))
 (bnd (bnd (ZZ (fun s : Int => match s with
 | d =>
 (ifb (decide (d < (plan.length : Int)))
 (bnd (bnd (idx plan d) fun q =>
 bnd (Zrc q.1) fun r =>
 ifb (decide (r ≤ (0 : Int)))
 (some true)
 (bnd (idx plan d) fun t =>
 bnd (Zrc t.2) fun u =>
 some (decide (u ≤ (0 : Int)))))
 (fun (v : Bool) =>
 (ifb (v)
 (some (.inr ((.inl (((0 : Int), (0 : Int), (1 : Int)))))))
 (bnd (chk .i64 (d + ((1 : Int)))) fun w =>
 some (.inl w)))))
 (some (.inr ((.inr (()))))))) Zba ((0 : Int)))
 (fun (p : (Int × Int × Int) ⊕ (Unit)) => match p with
 | .inl ((x, y, z)) =>
 (some ((.inr ((x, y, z)))))
 | .inr (()) =>
 (some ((.inl (()))))))
 (fun (p : (Unit) ⊕ (Int × Int × Int)) => match p with
 | .inl (()) =>
 (bnd (bnd (Zrc single) fun A =>
 ifb (decide (A < (0 : Int)))
 (some true)
 (bnd (Zrc all) fun B =>
 some (decide (B < (0 : Int)))))
 (fun (C : Bool) =>
 (ifb (C)
 (some (((0 : Int), (0 : Int), (1 : Int))))
 (bnd (Zmg log) fun i =>
 ifb (i != ((0 : Int)))
 (some (((0 : Int), (0 : Int), i)))
 (bnd (ZOd ) fun D =>
 bnd (ZOd ) fun E =>
 bnd (ZOd ) fun F =>
 bnd (bnd (ZZ (fun s : Int × Rat × Rat × Rat × Int => match s with
 | (b, G, j, H, f) =>
 (ifb (decide (f < (log.length : Int)))
 (bnd (bnd (idx log f) fun a =>
 bnd (Z5c a.1) fun I =>
 ifb (I)
 (bnd (Zxd j a.2) fun k =>
 bnd (Zxd H a.2) fun l =>
 bnd (bnd (ZVd k all) fun J =>
 ifb (decide ((0 : Int) < J))
 (some true)
 (bnd (ZVd l single) fun K =>
 some (decide ((0 : Int) < K))))
 (fun (L : Bool) =>
 (ifb (L)
 (some ((.inl ((b, (3 : Int), (0 : Int))))))
 (bnd (ZOd ) fun M =>
 some ((.inr ((b, M, k, l))))))))
 (bnd (ZOd ) fun N =>
 bnd (idx plan b) fun O =>
 bnd (ZTe a.1 O.1) fun P =>
 ifb (!(P))
 (some ((.inl ((b, (4 : Int), (0 : Int))))))
 (bnd (Zxd G a.2) fun Q =>
 bnd (bnd (ZZ (fun s : Int × Rat => match s with
 | (e, g) =>
 (bnd (idx plan e) fun R =>
 bnd (ZVd g R.2) fun S =>
 ifb (decide ((0 : Int) ≤ S))
 (bnd (idx plan e) fun T =>
 bnd (Zxe g T.2) fun m =>
 bnd (chk .i64 (e + ((1 : Int)))) fun c =>
 ifb (c == ((plan.length : Int)))
 (some (.inr ((.inl ((c, (1 : Int), (0 : Int)))))))
 (bnd (idx plan c) fun U =>
 bnd (ZTe U.1 a.1) fun V =>
 ifb (!(V))
 (some (.inr ((.inr ((c, m))))))
 (some (.inl ((c, m))))))
 (some (.inr ((.inr ((e, g)))))))) Zba ((b, Q)))
 (fun (p : (Int × Int × Int) ⊕ (Int × Rat)) => match p with
 | .inl ((W, X, Y)) =>
 (some ((.inr ((W, X, Y)))))
 | .inr ((Z, aa)) =>
 (some ((.inl ((Z, aa)))))))
 (fun (p : (Int × Rat) ⊕ (Int × Int × Int)) => match p with
 | .inl ((h, n)) =>
 (bnd (bnd (Z5c n) fun ab =>
 ifb (!(ab))
 (bnd (idx plan h) fun ac =>
 bnd (ZTe ac.1 a.1) fun ad =>
 some (!(ad)))
 (some false))
 (fun (ae : Bool) =>
 (ifb (ae)
 (some ((.inl ((h, (4 : Int), (0 : Int))))))
 (some ((.inr ((h, n, j, N))))))))
 | .inr ((af, ag, ah)) =>
 (some ((.inl ((af, ag, ah)))))))))
 (fun (p : (Int × Int × Int) ⊕ (Int × Rat × Rat × Rat)) => match p with
 | .inl ((ai, aj, ak)) =>
 (some (.inr ((.inl ((ai, aj, ak))))))
 | .inr ((al, am, an, ao)) =>
 (bnd (chk .i64 (f + ((1 : Int)))) fun ap =>
 some (.inl ((al, am, an, ao, ap))))))
 (some (.inr ((.inr b)))))) Zba (((0 : Int), D, E, F, (0 : Int))))
 (fun (p : (Int × Int × Int) ⊕ (Int)) => match p with
 | .inl ((aq, ar, au)) =>
 (some ((.inr ((aq, ar, au)))))
 | .inr av =>
 (some ((.inl av)))))
 (fun (p : (Int) ⊕ (Int × Int × Int)) => match p with
 | .inl aw =>
 (some ((aw, (2 : Int), (0 : Int))))
 | .inr ((ax, ay, az)) =>
 (some ((ax, ay, az)))))))))
 | .inr ((aA, aB, aC)) =>
 (some ((aA, aB, aC)))))))
noncomputable def Zzi (stages : (List ((Int × Int) × (Int × Int)))) (log : (List ((Int × Int) × (Int × Int)))) (single : (Int × Int)) (all : (Int × Int)) : Option (Bool) :=
 bnd (ifb (decide ((300 : Int) < (stages.length : Int)))
 (some true)
 (some (decide ((300 : Int) < (log.length : Int)))))
 (fun (i : Bool) =>
 (ifb (i)
 (bnd (Zef ) fun j =>
 some j)
 (bnd (Z6f stages) fun f =>
 bnd (Z6f log) fun d =>
 bnd (bnd (Z9b ((single.1, single.2))) fun k =>
 bnd (Z9b ((all.1, all.2))) fun l =>
 bnd (ZLf log) fun m =>
 bnd (Z6g f.1 ((k, l)) m) fun e =>
 some (((e.1.1, e.1.2), e.2)))
 (fun (p : (Int × Int) × Int) => match p with
 | (a, g) =>
 (bnd (ZTc ((single.1, single.2))) fun n =>
 bnd (ZTc ((all.1, all.2))) fun o =>
 bnd (Zzh f.2 n o d.2) fun b =>
 bnd (ZLf log) fun q =>
 bnd (Zdf q) fun c =>
 bnd (Zmg d.2) fun h =>
 ifb (h != ((0 : Int)))
 (bnd (ifb (g == b.2.2)
 (ifb (Bool.and (a.1 == ((0 : Int))) (Bool.and (a.2 == ((0 : Int))) (true)))
 (ifb (c.2 == h)
 (bnd (Z1d c.1) fun r =>
 ifb (r)
 (bnd (Zef ) fun s =>
 some s)
 (some false))
 (some false))
 (some false))
 (some false))
 (fun (t : Bool) =>
 (some t)))
 (bnd (ifb (g == b.2.2)
 (ifb (a.1 == b.1)
 (ifb (a.2 == b.2.1)
 (ifb (c.2 == ((0 : Int)))
 (bnd (ZLg d.2) fun u =>
 bnd (Zsg c.1 u) fun v =>
 ifb (v)
 (bnd (Zef ) fun w =>
 some w)
 (some false))
 (some false))
 (some false))
 (some false))
 (some false))
 (fun (x : Bool) =>
 (some x))))))))
set_option maxRecDepth 100000
def rlo (plan : List RR2) (sp : Rat) : Nat → Rat → Nat → (Int × Int × Int) ⊕ (Rat × Nat)
  | 0, d, due => .inr (d, due)
  | f + 1, d, due =>
    if (pAt plan due).2 ≤ d then
      if due + 1 = plan.length then .inl (((due + 1 : Nat) : Int), 1, 0)
      else if (pAt plan (due + 1)).1 ≠ sp then .inr (d - (pAt plan due).2, due + 1)
      else rlo plan sp f (d - (pAt plan due).2) (due + 1)
    else .inr (d, due)
def tri (r : Int × Int) : Int × Int × Int := (r.1, r.2, 0)
abbrev T3 := Int × Int × Int
def rfin (plan : List RR2) (sp : Rat) : T3 ⊕ (Rat × Nat) → T3 ⊕ (Rat × Nat)
  | .inl r => .inl r
  | .inr q => if q.1 ≠ 0 ∧ (pAt plan q.2).1 ≠ sp then .inl ((q.2 : Int), 4, 0) else .inr q
def afin : (Int × Int) ⊕ (Rat × Nat) → T3 ⊕ (Rat × Nat)
  | .inl r => .inl (tri r)
  | .inr q => .inr q
theorem Zym {plan : List RR2} (hb : plan.any ZUb = false) (sp : Rat) : ∀ f d due, due + f = plan.length → 0 < f → (pAt plan due).1 = sp → rfin plan sp (rlo plan sp f d due) = afin (adv plan sp f d due)
  | 0, _, _, _, h, _ => by omega
  | f + 1, d, due, hf, _, hs => by
    unfold rlo adv
    by_cases h1 : (pAt plan due).2 ≤ d
    · rw [if_pos h1, if_pos h1]
      by_cases h2 : due + 1 = plan.length
      · rw [if_pos h2, if_pos h2]; rfl
      · rw [if_neg h2, if_neg h2]
        by_cases h3 : (pAt plan (due + 1)).1 = sp
        · rw [if_neg (fun h => h h3), if_neg (fun h => absurd h3 h.2)]
          exact Zym hb sp f _ (due + 1) (by omega) (by omega) h3
        · rw [if_pos h3]
          unfold rfin
          simp only
          by_cases h4 : d - (pAt plan due).2 = 0
          · rw [if_neg (fun h => h.1 h4), if_neg (fun h => h.1 h4)]
            obtain ⟨g, rfl⟩ : ∃ g, f = g + 1 := ⟨f - 1, by omega⟩
            have hp : 0 < (pAt plan (due + 1)).2 := by
              have hd : due + 1 < plan.length := by omega
              have := Zwm hb (due + 1) hd; unfold ZUb at this; unfold pAt; rw [Z0c hd]; simp at this; exact this.2
            unfold adv; rw [h4, if_neg (by grind)]; rfl
          · rw [if_pos ⟨h4, h3⟩, if_pos ⟨h4, h3⟩]; rfl
    · rw [if_neg h1, if_neg h1]; unfold rfin; simp only; rw [if_neg (fun h => h.2 hs)]; rfl
theorem Z2l {plan : List RR2} (hp : szL plan) (sp : Rat) : ∀ f d due c, due + f = plan.length → 0 < f → sz c d → match rlo plan sp f d due with
    | .inl r => True
    | .inr (d', due') => due ≤ due' ∧ due' < plan.length ∧ sz (c + 65 * (due' - due)) d'
  | 0, _, _, _, _, h, _ => by omega
  | f + 1, d, due, c, hf, _, hd => by
    unfold rlo
    by_cases h1 : (pAt plan due).2 ≤ d
    · rw [if_pos h1]
      by_cases h2 : due + 1 = plan.length
      · rw [if_pos h2]; trivial
      · rw [if_neg h2]
        have z := ZRh hd (hp.at (i := due) (by omega)).2
        by_cases h3 : (pAt plan (due + 1)).1 ≠ sp
        · rw [if_pos h3]; exact ⟨by omega, by omega, z.mono (by omega)⟩
        · rw [if_neg h3]
          have ih := Z2l hp sp f _ (due + 1) (c + 65) (by omega) (by omega) (z.mono (by omega))
          cases ha : rlo plan sp f (d - (pAt plan due).2) (due + 1) with
          | inl r => trivial
          | inr q =>
            rw [ha] at ih
            obtain ⟨d', due'⟩ := q
            exact ⟨by omega, ih.2.1, ih.2.2.mono (by omega)⟩
    · rw [if_neg h1]
      exact ⟨Nat.le_refl _, by omega, hd.mono (by omega)⟩
theorem Zul {plan : List RR2} (hp : szL plan) (hl : plan.length ≤ 256) {sp : Rat} {body : Int × Rat → Option ((Int × Rat) ⊕ ((Int × Int × Int) ⊕ (Int × Rat)))}
    (hb : ∀ d (due : Nat), due < plan.length → sz 1000000 d → body ((due : Int), d) =
      if (pAt plan due).2 ≤ d then
        if due + 1 = plan.length then some (.inr (.inl (((due + 1 : Nat) : Int), 1, 0)))
        else if (pAt plan (due + 1)).1 ≠ sp then some (.inr (.inr (((due + 1 : Nat) : Int), d - (pAt plan due).2)))
        else some (.inl (((due + 1 : Nat) : Int), d - (pAt plan due).2))
      else some (.inr (.inr ((due : Int), d)))) :
    ∀ f F d due c, due + f = plan.length → 0 < f → f < F → sz c d → c + 65 * f ≤ 1000000 → ZZ body F ((due : Int), d) = some (match rlo plan sp f d due with
      | .inl r => .inl r
      | .inr (d', due') => .inr ((due' : Int), d'))
  | 0, _, _, _, _, _, h, _, _, _ => by omega
  | f + 1, F, d, due, c, hf, _, hF, hd, hc => by
    obtain ⟨F, rfl⟩ : ∃ g, F = g + 1 := ⟨F - 1, by omega⟩
    unfold ZZ rlo
    rw [hb d due (by omega) (hd.mono (by omega))]
    by_cases h1 : (pAt plan due).2 ≤ d
    · rw [if_pos h1, if_pos h1]
      by_cases h2 : due + 1 = plan.length
      · rw [if_pos h2, if_pos h2, Ze]
      · rw [if_neg h2, if_neg h2]
        by_cases h3 : (pAt plan (due + 1)).1 ≠ sp
        · rw [if_pos h3, if_pos h3, Ze]
        · rw [if_neg h3, if_neg h3, Ze]
          have z := ZRh hd (hp.at (i := due) (by omega)).2
          exact Zul hp hl hb f F _ (due + 1) (c + 65) (by omega) (by omega) (by omega) (z.mono (by omega)) (by omega)
    · rw [if_neg h1, if_neg h1, Ze]
def Zic (plan : List RR2) (rule e : RR2) (s : JS) : (T3 ⊕ Int) ⊕ JS :=
  match jst plan rule e s with
  | .inl r => .inl (.inl (tri r))
  | .inr s' => .inr s'
def Zbf (s : JS) : T3 ⊕ Int := .inr (s.due : Int)
def out3 : T3 ⊕ Int → T3
  | .inl r => r
  | .inr d => (d, 2, 0)
theorem run3 (plan : List RR2) (rule : RR2) : ∀ l s, out3 (Zcc (Zic plan rule) Zbf l s) = tri (Zcc (jst plan rule) jend l s)
  | [], s => rfl
  | e :: l, s => by
    cases h : jst plan rule e s with
    | inl r =>
      have h3 : Zic plan rule e s = .inl (.inl (tri r)) := by unfold Zic; rw [h]
      rw [Z7l h, Z7l h3]; rfl
    | inr s' =>
      have h3 : Zic plan rule e s = .inr s' := by unfold Zic; rw [h]
      rw [Z1m h, Z1m h3]; exact run3 plan rule l s'
theorem zr (x : Rat) : Z5c x = some (decide (x = 0)) := rfl
theorem Zmq {plan : List RR2} {single all : Rat} {log : List RR2} (hp : szL plan) (hl : szL log) (hr : sz 64 single ∧ sz 64 all) :
    Zzh plan single all log = some (if Zob plan (single, all) ≠ 0 then (0, 0, Zob plan (single, all)) else if ZAb log ≠ 0 then (0, 0, ZAb log) else tri (ZNg plan (single, all) log)) := by
  unfold Zzh; rw [Z6l, Zpm]; have s1 : ∀ y : Rat, decide (y.num.sign < 0) = decide (y < 0) := fun y => decide_eq_decide.2 ZLi; have s2 : ∀ y : Rat, decide (y.num.sign ≤ 0) = !decide (0 < y) := fun y => by
    rw [Bool.eq_iff_iff]; simp only [decide_eq_true_iff, Bool.not_eq_true', decide_eq_false_iff_not, Z9j]; grind
  by_cases h0 : plan.length = 0
  · have : Zob plan (single, all) = 4 := by unfold Zob; rw [if_pos (.inl h0)]
    rw [decide_eq_true (by omega), ZH, Ze, ZH, this]; rfl
  rw [decide_eq_false (by omega), ZG]; by_cases h1 : 256 < plan.length
  · have : Zob plan (single, all) = 4 := by unfold Zob; rw [if_pos (.inr h1)]
    rw [decide_eq_true (by omega), Ze, ZH, this]; rfl
  rw [decide_eq_false (by omega), Ze, ZG]; have hloop : ∀ {body : Int → Option (Int ⊕ ((Int × Int × Int) ⊕ Unit))}, (∀ i, (hi : i < plan.length) → body (i : Int) = if ZUb plan[i] then some (.inr (.inl (0, 0, 1))) else some (.inl ((i : Int) + 1))) → body (plan.length : Int) = some (.inr (.inr ())) → ZZ body Zba 0 = some (if plan.any ZUb then .inl (0, 0, 1) else .inr ()) := fun h1 he => Z5h plan ZUb (0, 0, 1) (by omega) h1 he; refine Zib (y := if plan.any ZUb then .inr ((0 : Int), (0 : Int), (1 : Int)) else .inl ()) (Zib (hloop (fun i hi => ?_) ?_) ?_) ?_
  · simp only; rw [decide_eq_true (by omega), ZH, Zda hi]; unfold Zrc; simp only [Ze]; have e : ifb (decide (plan[i].1.num.sign ≤ 0)) (some true) (some (decide (plan[i].2.num.sign ≤ 0))) = some (ZUb plan[i]) := by
      rw [s2, s2]; unfold ZUb
      cases decide (0 < plan[i].1) <;> rfl
    rw [e, Ze]; split
    · rename_i hb; rw [hb, ZH]
    · rename_i hb; have hb' : ZUb plan[i] = false := by simpa using hb
      rw [hb', ZG, Zwa (by omega) (by omega), Ze]
  · simp only; rw [decide_eq_false (by omega), ZG]
  · generalize plan.any ZUb = b; cases b <;> rfl
  by_cases hbs : plan.any ZUb = true
  · have : Zob plan (single, all) = 1 := by unfold Zob; rw [if_neg (by omega), if_pos hbs]
    rw [if_pos hbs, this]; rfl
  have hbs' : plan.any ZUb = false := by simpa using hbs
  rw [if_neg hbs]; simp only; have er : (bnd (Zrc single) fun y747 => ifb (decide (y747 < (0 : Int))) (some true) (bnd (Zrc all) fun y755 => some (decide (y755 < (0 : Int))))) = some (decide (single < 0) || decide (all < 0)) := by
    unfold Zrc; rw [Ze, Ze, s1, s1]
    cases decide (single < 0) <;> rfl
  rw [er, Ze]; by_cases hneg : (decide (single < 0) || decide (all < 0)) = true
  · have : Zob plan (single, all) = 1 := by unfold Zob; rw [if_neg (by omega), if_neg hbs, if_pos hneg]
    rw [hneg, ZH, this]; rfl
  have hneg' : (decide (single < 0) || decide (all < 0)) = false := by simpa using hneg
  have cP : Zob plan (single, all) = 0 := by unfold Zob; rw [if_neg (by omega), if_neg hbs, if_neg hneg]
  rw [hneg', ZG, Ze, cP, if_neg (by simp)]; by_cases c2 : ZAb log = 0
  · have b2 : (ZAb log != 0) = false := by simpa using c2
    have hL : log.length ≤ 256 := by
      unfold ZAb at c2; split at c2
      · simp at c2
      · omega
    rw [b2, ZG, if_neg (by rw [c2]; simp)]; simp only [Ze]; have hJ : tri (ZNg plan (single, all) log) = out3 (Zcc (Zic plan (single, all)) Zbf log ⟨0, 0, 0, 0⟩) := (run3 plan (single, all) log ⟨0, 0, 0, 0⟩).symm; rw [hJ]; refine Zib (y := match Zcc (Zic plan (single, all)) Zbf log ⟨0, 0, 0, 0⟩ with | .inl r => (.inr r : Int ⊕ T3) | .inr d => .inl d) (Zib (y := Zcc (Zic plan (single, all)) Zbf log ⟨0, 0, 0, 0⟩) (Zkn log (fun s i => ((s.due : Int), s.done, s.all, s.one, (i : Int))) (Zic plan (single, all)) Zbf (JI plan) (s0 := ⟨0, 0, 0, 0⟩) rfl ⟨Zpe, Zpe, Zpe, show 0 < plan.length by omega⟩ (by omega) (fun i s hi hI => ?_) (fun i s s' hi hI hf => ?_) (fun s hI => ?_)) ?_) ?_
    · obtain ⟨z1, z2, z3, hd⟩ := hI; have ze := hl i hi; simp only; rw [decide_eq_true (by omega), ZH, Zda hi, Ze]; refine Zib (y := match Zic plan (single, all) log[i] s with | .inl (.inl r) => (.inl r : T3 ⊕ (Int × Rat × Rat × Rat)) | .inl (.inr d) => .inl (d, 2, 0) | .inr s' => .inr ((s'.due : Int), s'.done, s'.all, s'.one)) ?_ ?_
      · unfold Zic jst; rw [zr, Ze]; by_cases e0 : log[i].1 = 0
        · have w2 := Zsd z2 ze.2; have w3 := Zsd z3 ze.2; rw [decide_eq_true e0, ZH, Zhj z2 ze.2 (by omega), Ze, Zhj z3 ze.2 (by omega), Ze, if_pos e0, Zuk w2 hr.2 (by omega), Ze, Zuk w3 hr.1 (by omega), Ze]; by_cases h1 : all < s.all + log[i].2
          · rw [decide_eq_true (ZYe.2 h1), ZH, Ze, ZH, if_pos (.inl h1)]; rfl
          · rw [decide_eq_false (fun h => h1 (ZYe.1 h)), ZG, Ze]; by_cases h2 : single < s.one + log[i].2
            · rw [decide_eq_true (ZYe.2 h2), ZH, if_pos (.inr h2)]; rfl
            · rw [decide_eq_false (fun h => h2 (ZYe.1 h)), ZG, if_neg (fun h => h.elim h1 h2)]
        · have ga := Z0c (l := plan) (d := ((0 : Rat), (0 : Rat))) hd; have zb0 := hp.at hd; rw [decide_eq_false e0, ZG, if_neg e0, Zda hd, Ze, ← ga, ZRk ze.1 zb0.1 (by omega), Ze]; by_cases h1 : log[i].1 = (pAt plan s.due).1
          · have w1 := Zsd z1 ze.2; rw [decide_eq_true h1, Bool.not_true, ZG, if_neg (fun h => h h1), Zhj z1 ze.2 (by omega), Ze]; have hA := Zym hbs' log[i].1 (plan.length - s.due) (s.done + log[i].2) s.due (by omega) (by omega) h1.symm; have hZ := Z2l hp log[i].1 (plan.length - s.due) (s.done + log[i].2) s.due _ (by omega) (by omega) w1; refine Zib (y := match rlo plan log[i].1 (plan.length - s.due) (s.done + log[i].2) s.due with | .inl r => (.inr r : (Int × Rat) ⊕ T3) | .inr (d', due') => .inl ((due' : Int), d')) (Zib (Zul hp (by omega) (sp := log[i].1) (fun d due hdue hzd => ?_) (plan.length - s.due) Zba _ s.due _ (by omega) (by omega) (ZJa (by omega)) w1 (by omega)) ?_) ?_
            · have gb := Z0c (l := plan) (d := ((0 : Rat), (0 : Rat))) hdue; have zb := hp.at hdue; simp only; rw [Zda hdue, Ze, ← gb, Zuk hzd zb.2 (by omega), Ze]; by_cases k1 : (pAt plan due).2 ≤ d
              · rw [decide_eq_true (Zxi.2 k1), ZH, if_pos k1, Ze, rsub_ok hzd zb.2 (by omega), Ze, Zwa (by omega) (by omega), Ze]; by_cases k2 : due + 1 = plan.length
                · have : ((due : Int) + 1 == (plan.length : Int)) = true := by rw [beq_iff_eq]; omega
                  rw [this, ZH, if_pos k2]; rfl
                · have : ((due : Int) + 1 == (plan.length : Int)) = false := by rw [Bool.eq_false_iff]; intro h; rw [beq_iff_eq] at h; omega
                  rw [this, ZG, if_neg k2]; have hd1 : due + 1 < plan.length := by omega
                  have gc := Z0c (l := plan) (d := ((0 : Rat), (0 : Rat))) hd1; rw [show (due : Int) + 1 = ((due + 1 : Nat) : Int) from rfl, Zda hd1, Ze, ← gc, ZRk (hp.at hd1).1 ze.1 (by omega), Ze]; by_cases k4 : (pAt plan (due + 1)).1 = log[i].1
                  · rw [decide_eq_true k4, Bool.not_true, ZG, if_neg (fun h => h k4)]
                  · rw [decide_eq_false k4, Bool.not_false, ZH, if_pos k4]
              · rw [decide_eq_false (fun h => k1 (Zxi.1 h)), ZG, if_neg k1]
            · cases rlo plan log[i].1 (plan.length - s.due) (s.done + log[i].2) s.due with
              | inl r => rfl
              | inr q => rfl
            · cases hR : rlo plan log[i].1 (plan.length - s.due) (s.done + log[i].2) s.due with
              | inl r =>
                rw [hR] at hA
                cases hB : adv plan log[i].1 (plan.length - s.due) (s.done + log[i].2) s.due with
                | inl r' =>
                  rw [hB] at hA; have : r = tri r' := Sum.inl.inj hA; rw [this]
                | inr q => rw [hB] at hA; cases hA
              | inr q =>
                rw [hR] at hA hZ; obtain ⟨d, due⟩ := q; obtain ⟨y1, y2, y3⟩ := hZ; have gd := Z0c (l := plan) (d := ((0 : Rat), (0 : Rat))) y2; simp only; rw [zr, Ze]; unfold rfin at hA; simp only at hA; by_cases k3 : d = 0
                · rw [if_neg (fun h => h.1 k3)] at hA; rw [decide_eq_true k3, Bool.not_true, ZG, Ze, ZG]
                  cases hB : adv plan log[i].1 (plan.length - s.due) (s.done + log[i].2) s.due with
                  | inl r' => rw [hB] at hA; cases hA
                  | inr q' => rw [hB] at hA; cases Sum.inr.inj hA; rfl
                · rw [decide_eq_false k3, Bool.not_false, ZH, Zda y2, Ze, ← gd, ZRk (hp.at y2).1 ze.1 (by omega), Ze, Ze]; by_cases k4 : (pAt plan due).1 = log[i].1
                  · rw [if_neg (fun h => h.2 k4)] at hA; rw [decide_eq_true k4, Bool.not_true, ZG]
                    cases hB : adv plan log[i].1 (plan.length - s.due) (s.done + log[i].2) s.due with
                    | inl r' => rw [hB] at hA; cases hA
                    | inr q' => rw [hB] at hA; cases Sum.inr.inj hA; rfl
                  · rw [if_pos ⟨k3, k4⟩] at hA; rw [decide_eq_false k4, Bool.not_false, ZH]
                    cases hB : adv plan log[i].1 (plan.length - s.due) (s.done + log[i].2) s.due with
                    | inl r' => rw [hB] at hA; have := Sum.inl.inj hA; rw [show (((due : Int), (4 : Int), (0 : Int)) : T3) = tri r' from this]
                    | inr q' => rw [hB] at hA; cases hA
          · rw [decide_eq_false h1, Bool.not_false, ZH, if_pos h1]; rfl
      · have hn : ∀ d, Zic plan (single, all) log[i] s ≠ .inl (.inr d) := fun d h => by
          unfold Zic at h
          cases hj : jst plan (single, all) log[i] s with
          | inl r => rw [hj] at h; cases h
          | inr s' => rw [hj] at h; cases h
        cases hj : Zic plan (single, all) log[i] s with
        | inl r =>
          cases r with
          | inl r => rfl
          | inr d => exact absurd hj (hn d)
        | inr s' =>
          simp only; rw [Zwa (by omega) (by omega), Ze]; rfl
    · refine hI.step hp (rule := (single, all)) (hl i hi) ?_; unfold Zic at hf
      cases hj : jst plan (single, all) log[i] s with
      | inl r => rw [hj] at hf; cases hf
      | inr s2 => rw [hj] at hf; cases hf; rfl
    · simp only; rw [decide_eq_false (by omega), ZG]; rfl
    · cases Zcc (Zic plan (single, all)) Zbf log ⟨0, 0, 0, 0⟩ <;> rfl
    · cases Zcc (Zic plan (single, all)) Zbf log ⟨0, 0, 0, 0⟩ <;> rfl
  · have b2 : (ZAb log != 0) = true := by simpa using c2
    rw [b2, ZH, if_pos c2]
set_option maxRecDepth 100000
def Zve (log : List RR2) : Nat → Rat
  | 0 => 0
  | i + 1 => Zve log i + (pAt log i).1 * (pAt log i).2
theorem Zhg {log : List RR2} (hl : szL log) : ∀ i, i ≤ log.length → sz (129 * i + 1) (Zve log i)
  | 0, _ => Zpe
  | i + 1, h => by
    have ih := Zhg hl i (by omega)
    have := hl.at (i := i) (by omega)
    exact (Zsd ih (Z4f this.1 this.2)).mono (by omega)
def ZDf (log : List RR2) : Rat := Zve log log.length / 60
theorem sz_60 : sz 64 ((60 : Int) : Rat) := ZAh (by omega)
theorem Zwh : ((60 : Int) : Rat) = 60 := rfl
theorem sz_dist {log : List RR2} (hl : szL log) (hn : log.length ≤ 256) : sz 1000000 (ZDf log) := by
  unfold ZDf; rw [← Zwh]; exact (sz_div (Zhg hl log.length (Nat.le_refl _)) sz_60).mono (by omega)
theorem ZMo {log : List RR2} (hl : szL log) (h0 : ZAb log = 0) : Zdf log = some (ZDf log, 0) := by
  have hn : log.length ≤ 256 := by
    unfold ZAb at h0; split at h0
    · simp at h0
    · omega
  unfold Zdf ZDf; have b : ((0 : Int) != 0) = false := rfl; rw [Zzk, Ze, h0, b, ZG]; refine Zib (y := Zve log log.length) (Zib (y := Zve log log.length) (Zag (fun k => (Zve log k, (k : Int))) log.length rfl (by omega) (fun i hi => ?_) ?_) rfl) ?_
  · have z := hl.at hi; have g := Z0c (l := log) (d := ((0 : Rat), (0 : Rat))) hi; have zm := Z4f z.1 z.2; simp only; rw [decide_eq_true (by omega), ZH, Zda hi, Ze, ← g, qmul_ok z.1 z.2 (by omega), Ze, ZNh (Zhg hl i (by omega)) zm (by omega), Ze, Zwa (by omega) (by omega), Ze]; rfl
  · simp only; rw [decide_eq_false (by omega), ZG]
  · rw [ZXo, Ze, tby_ok (Zhg hl log.length (Nat.le_refl _)) sz_60 (by omega) (by rw [Zwh]; grind), Ze, Zwh]
theorem Zno {log : List RR2} (hl : szL log) (hn : log.length ≤ 256) : ZLg log = some (ZDf log) := by
  unfold ZLg ZDf; rw [Zpm, Ze]; refine Zib (y := Zve log log.length) (Zib (y := Zve log log.length) (Zag (fun k => (Zve log k, (k : Int))) log.length rfl (by omega) (fun i hi => ?_) ?_) rfl) ?_
  · have z := hl.at hi; have g := Z0c (l := log) (d := ((0 : Rat), (0 : Rat))) hi; have zm := Z4f z.1 z.2; simp only; rw [decide_eq_true (by omega), ZH, Zda hi, Ze, Ze, ← g, rmul_ok z.1 z.2 (by omega), Ze, Zhj (Zhg hl i (by omega)) zm (by omega), Ze, Zwa (by omega) (by omega), Ze]; rfl
  · simp only; rw [decide_eq_false (by omega), ZG]
  · have rw1 : ∀ x : Int, ZQc x = some (x : Rat) := fun _ => rfl; rw [rw1, Ze, rby_ok (Zhg hl log.length (Nat.le_refl _)) sz_60 (by omega) (by rw [Zwh]; grind), Ze, Zwh]
theorem ZGq (stages log : List ((Int × Int) × (Int × Int))) (single all : Int × Int) (hs : ∀ x ∈ stages, i64 x.1 ∧ i64 x.2) (hl : ∀ x ∈ log, i64 x.1 ∧ i64 x.2) (h1 : i64 single) (h2 : i64 all) : Zzi stages log single all = some true := by
  unfold Zzi; rw [ZXq]; by_cases n1 : 300 < stages.length
  · rw [decide_eq_true (by omega), ZH, Ze, ZH, Ze]
  rw [decide_eq_false (by omega), ZG]; by_cases n2 : 300 < log.length
  · rw [decide_eq_true (by omega), Ze, ZH, Ze]
  rw [decide_eq_false (by omega), Ze, ZG, Zom stages (by omega), Ze, Zom log (by omega), Ze]; unfold Z9b ZTc; simp only [Ze]; rw [Z1q log (by omega)]; simp only [Ze]; have hP := Zpn hs; have hQ := Zpn hl; have lQ : (Z9a log).length = log.length := List.length_map ..; generalize Z9a stages = P at *; generalize Z9a log = Q at *; have hr : sz 64 (Znb single) ∧ sz 64 (Znb all) := ⟨ZAj h1, ZAj h2⟩; have e1 : Znb (single.1, single.2) = Znb single := rfl; have e2 : Znb (all.1, all.2) = Znb all := rfl; rw [e1, e2, Znq hP hQ hr, Zmq hP hQ hr]; simp only [Ze]; rw [Z6l]; simp only [Ze]; have b0 : ((0 : Int) != 0) = false := rfl; by_cases c2 : ZAb Q = 0
  · have hn : Q.length ≤ 256 := by
      unfold ZAb at c2; split at c2
      · simp at c2
      · omega
    rw [ZMo hQ c2, Zno hQ hn, c2]; simp only [Ze, b0, ZG]; rw [is1_ok (sz_dist hQ hn) (by omega)]; by_cases c1 : Zob P (Znb single, Znb all) = 0
    · rw [c1]; simp [tri, ZH, Ze]
    · rw [if_pos c1, if_pos c1]; simp [ZH, Ze]
  · have b2 : (ZAb Q != 0) = true := by simpa using c2
    have hd : Zdf Q = some (0, ZAb Q) := by
      unfold Zdf; rw [Zzk, Ze, b2, ZH]
    have q0 : Z1d (0 : Rat) = some true := rfl; rw [hd]; simp only [Ze, b2, ZH, beq_self_eq_true, q0]; by_cases c1 : Zob P (Znb single, Znb all) = 0
    · simp [c1, c2, ZH, Ze]
    · rw [if_pos c1, if_pos c1]; simp [ZH, Ze]
theorem ZDl {α : Type} {A : Rep α} {v : Zd} {cs : List Value} {l : List α} (h : (Zu A).rel v cs l) {x : α} (hx : x ∈ l) : ∃ c, A.rel v c x := by
  obtain ⟨q, cap, rfl, h1, h2, h3⟩ := h; rcases h3 with rfl | ⟨b, off, c, T, fr, e, hb, hr⟩
  · cases hx
  · obtain ⟨i, hi, rfl⟩ := List.getElem_of_mem hx; exact ⟨_, ZKa hr (List.getElem?_eq_getElem hi)⟩
theorem Z7f {v : Zd} {c : List Value} {r : Int × Int} (h : Rep.rel (Zs (Za .i64) (Za .i64)) v c r) : i64 r := by
  obtain ⟨c1, c2, _, ⟨_, h1⟩, _, h2⟩ := h; exact ⟨Z7b.1 h1, Z7b.1 h2⟩
end Go.Eng
namespace Go.Eng
open Go.RowKit
theorem Zf {α : Type _} {a b : α} (h : some a = some b) : a = b := Option.some.inj h
theorem Zw (b : Bool) : b = true ∨ b = false := (Bool.eq_false_or_eq_true b)
theorem leT {a b c : Zd} (h : a.le b) (k : b.le c) : a.le c := Zd.le_trans h k
theorem leR (v : Zd) : v.le v := Zd.le_refl v
theorem Zm {P : Program} {Q : Exit → Act → World → Prop} {a : Act} {w : World} {id : Nat} {l : List Oper} (h : wpList P l.toArray Q l a w) : (Code.region id l.toArray false).wp P Q a w := wp_region_lit h
theorem Zh {P : Program} {Q : Exit → Act → World → Prop} {a : Act} {w : World} {x y : Code} (h : ∀ K : Act → World → Prop, (∀ a w, y.wp P Q a w → K a w) → x.wp P (Exit.then K Q) a w) : (Code.seq x y).wp P Q a w := wp_seq_k h
theorem Zn {α : Type} {A : Rep α} {v v' : Zd} {cs : List Value} {x : α} (hv : v.le v') (h : A.rel v cs x) : A.rel v' cs x := A.mono hv h
theorem Zsa {α : Type} (A : Rep α) {v : Zd} {cs : List Value} {x : α} (h : A.rel v cs x) : cs.all ZYa = true := A.flat h
theorem Atm {v v' : Zd} {b off : Nat} {cs : List Value} (h : v.le v') (k : At v b off cs) : At v' b off cs := At.mono h k
end Go.Eng
namespace Go.Eng
open Go.Proofs Go.RowKit
theorem Z3m : Ztg Tryz.prog 291 20 1 := ⟨5, fun _ => by kernel_rfl, fun _ => by kernel_rfl⟩
theorem ZGb : Ztg Tryz.prog 51 3 2 := ⟨50, fun _ => by kernel_rfl, fun _ => by kernel_rfl⟩
theorem Zrd : ZIe Tryz.prog 211 212 .u64 .u32 := fun _ _ => by kernel_rfl
theorem ZAm : ZIe Tryz.prog 211 5 .u64 .u8 := fun _ _ => by kernel_rfl
theorem ZZl : ZIe Tryz.prog 212 2 .u32 .i64 := fun _ _ => by kernel_rfl
theorem ZNc : ZIe Tryz.prog 212 211 .u32 .u64 := fun _ _ => by kernel_rfl
theorem ZDj : ZIe Tryz.prog 2 211 .i64 .u64 := fun _ _ => by kernel_rfl
theorem ZJn : ZIe Tryz.prog 2 212 .i64 .u32 := fun _ _ => by kernel_rfl
theorem ZSj : ZIe Tryz.prog 3 253 .i64 .u64 := fun _ _ => by kernel_rfl
theorem k_cv5_3 : ZIe Tryz.prog 5 3 .u8 .i64 := fun _ _ => by kernel_rfl
theorem Ztl : Elem Tryz.prog 123 129 6 112 (Value.agg #[Value.bool false, Value.slice none 0 0, Value.slice none 0 0, Value.bool false, Value.slice none 0 0, Value.slice none 0 0]) := ⟨Tryz.underlying123, by kernel_rfl, rfl, by decide⟩
theorem Zfm : Elem Tryz.prog 124 214 6 112 (Value.agg #[Value.bool false, Value.slice none 0 0, Value.slice none 0 0, Value.bool false, Value.slice none 0 0, Value.slice none 0 0]) := ⟨Tryz.underlying124, by kernel_rfl, rfl, by decide⟩
theorem Zgl : Elem Tryz.prog 127 131 6 112 (Value.agg #[Value.bool false, Value.slice none 0 0, Value.slice none 0 0, Value.bool false, Value.slice none 0 0, Value.slice none 0 0]) := ⟨Tryz.underlying127, by kernel_rfl, rfl, by decide⟩
theorem ZJm : Elem Tryz.prog 263 9 1 16 (Value.string (Z3 [])) := ⟨Tryz.underlying263, by kernel_rfl, rfl, by decide⟩
theorem ZWg : Elem Tryz.prog 28 3 1 8 (Value.int IntKind.i64 0) := ⟨Tryz.underlying28, by kernel_rfl, rfl, by decide⟩
theorem Z4c : Elem Tryz.prog 30 211 1 8 (Value.int IntKind.u64 0) := ⟨Tryz.underlying30, by kernel_rfl, rfl, by decide⟩
theorem Zsb : Elem Tryz.prog 40 212 1 4 (Value.int IntKind.u32 0) := ⟨Tryz.underlying40, by kernel_rfl, rfl, by decide⟩
theorem Z1f : Elem Tryz.prog 80 34 3 56 (Value.agg #[Value.bool false, Value.slice none 0 0, Value.slice none 0 0]) := ⟨Tryz.underlying80, by kernel_rfl, rfl, by decide⟩
theorem Znl : Elem Tryz.prog 85 42 3 56 (Value.agg #[Value.bool false, Value.slice none 0 0, Value.slice none 0 0]) := ⟨Tryz.underlying85, by kernel_rfl, rfl, by decide⟩
theorem k_en100 : ZS Tryz.prog 100 := fun _ _ => by kernel_rfl
theorem ZHe : ZS Tryz.prog 101 := fun _ _ => by kernel_rfl
theorem Zah : ZS Tryz.prog 102 := fun _ _ => by kernel_rfl
theorem Zih : ZS Tryz.prog 103 := fun _ _ => by kernel_rfl
theorem ZYd : ZS Tryz.prog 104 := fun _ _ => by kernel_rfl
theorem k_en105 : ZS Tryz.prog 105 := fun _ _ => by kernel_rfl
theorem k_en106 : ZS Tryz.prog 106 := fun _ _ => by kernel_rfl
theorem Z2j : ZS Tryz.prog 107 := fun _ _ => by kernel_rfl
theorem k_en108 : ZS Tryz.prog 108 := fun _ _ => by kernel_rfl
theorem Zeg : ZS Tryz.prog 109 := fun _ _ => by kernel_rfl
theorem Zje : ZS Tryz.prog 110 := fun _ _ => by kernel_rfl
theorem ZKe : ZS Tryz.prog 111 := fun _ _ => by kernel_rfl
theorem ZTd : ZS Tryz.prog 112 := fun _ _ => by kernel_rfl
theorem k_en113 : ZS Tryz.prog 113 := fun _ _ => by kernel_rfl
theorem Z3g : ZS Tryz.prog 114 := fun _ _ => by kernel_rfl
theorem ZPh : ZS Tryz.prog 115 := fun _ _ => by kernel_rfl
theorem k_en119 : ZS Tryz.prog 119 := fun _ _ => by kernel_rfl
theorem k_en120 : ZS Tryz.prog 120 := fun _ _ => by kernel_rfl
theorem k_en121 : ZS Tryz.prog 121 := fun _ _ => by kernel_rfl
theorem Zvi : ZS Tryz.prog 124 := fun _ _ => by kernel_rfl
theorem ZBj : ZS Tryz.prog 126 := fun _ _ => by kernel_rfl
theorem k_en127 : ZS Tryz.prog 127 := fun _ _ => by kernel_rfl
theorem k_en128 : ZS Tryz.prog 128 := fun _ _ => by kernel_rfl
theorem Zmn : ZS Tryz.prog 129 := fun _ _ => by kernel_rfl
theorem ZKl : ZS Tryz.prog 137 := fun _ _ => by kernel_rfl
theorem k_en138 : ZS Tryz.prog 138 := fun _ _ => by kernel_rfl
theorem ZWe : ZS Tryz.prog 139 := fun _ _ => by kernel_rfl
theorem k_en140 : ZS Tryz.prog 140 := fun _ _ => by kernel_rfl
theorem k_en141 : ZS Tryz.prog 141 := fun _ _ => by kernel_rfl
theorem k_en142 : ZS Tryz.prog 142 := fun _ _ => by kernel_rfl
theorem Zbm : ZS Tryz.prog 143 := fun _ _ => by kernel_rfl
theorem k_en144 : ZS Tryz.prog 144 := fun _ _ => by kernel_rfl
theorem Zsj : ZS Tryz.prog 145 := fun _ _ => by kernel_rfl
theorem Z4h : ZS Tryz.prog 146 := fun _ _ => by kernel_rfl
theorem ZCk : ZS Tryz.prog 147 := fun _ _ => by kernel_rfl
theorem ZHd : ZS Tryz.prog 149 := fun _ _ => by kernel_rfl
theorem ZAk : ZS Tryz.prog 15 := fun _ _ => by kernel_rfl
theorem Z4l : ZS Tryz.prog 150 := fun _ _ => by kernel_rfl
theorem ZSm : ZS Tryz.prog 151 := fun _ _ => by kernel_rfl
theorem ZGl : ZS Tryz.prog 152 := fun _ _ => by kernel_rfl
theorem k_en153 : ZS Tryz.prog 153 := fun _ _ => by kernel_rfl
theorem k_en154 : ZS Tryz.prog 154 := fun _ _ => by kernel_rfl
theorem ZEk : ZS Tryz.prog 155 := fun _ _ => by kernel_rfl
theorem Zke : ZS Tryz.prog 156 := fun _ _ => by kernel_rfl
theorem k_en157 : ZS Tryz.prog 157 := fun _ _ => by kernel_rfl
theorem Zrk : ZS Tryz.prog 158 := fun _ _ => by kernel_rfl
theorem k_en159 : ZS Tryz.prog 159 := fun _ _ => by kernel_rfl
theorem k_en161 : ZS Tryz.prog 161 := fun _ _ => by kernel_rfl
theorem Zxm : ZS Tryz.prog 167 := fun _ _ => by kernel_rfl
theorem k_en168 : ZS Tryz.prog 168 := fun _ _ => by kernel_rfl
theorem k_en169 : ZS Tryz.prog 169 := fun _ _ => by kernel_rfl
theorem k_en17 : ZS Tryz.prog 17 := fun _ _ => by kernel_rfl
theorem k_en170 : ZS Tryz.prog 170 := fun _ _ => by kernel_rfl
theorem k_en171 : ZS Tryz.prog 171 := fun _ _ => by kernel_rfl
theorem k_en172 : ZS Tryz.prog 172 := fun _ _ => by kernel_rfl
theorem k_en173 : ZS Tryz.prog 173 := fun _ _ => by kernel_rfl
theorem Zzm : ZS Tryz.prog 174 := fun _ _ => by kernel_rfl
theorem k_en175 : ZS Tryz.prog 175 := fun _ _ => by kernel_rfl
theorem Z2m : ZS Tryz.prog 176 := fun _ _ => by kernel_rfl
theorem Z1h : ZS Tryz.prog 177 := fun _ _ => by kernel_rfl
theorem k_en178 : ZS Tryz.prog 178 := fun _ _ => by kernel_rfl
theorem k_en179 : ZS Tryz.prog 179 := fun _ _ => by kernel_rfl
theorem k_en181 : ZS Tryz.prog 181 := fun _ _ => by kernel_rfl
theorem ZFl : ZS Tryz.prog 182 := fun _ _ => by kernel_rfl
theorem k_en183 : ZS Tryz.prog 183 := fun _ _ => by kernel_rfl
theorem k_en184 : ZS Tryz.prog 184 := fun _ _ => by kernel_rfl
theorem k_en185 : ZS Tryz.prog 185 := fun _ _ => by kernel_rfl
theorem Zhn : ZS Tryz.prog 19 := fun _ _ => by kernel_rfl
theorem Zml : ZS Tryz.prog 190 := fun _ _ => by kernel_rfl
theorem k_en196 : ZS Tryz.prog 196 := fun _ _ => by kernel_rfl
theorem k_en197 : ZS Tryz.prog 197 := fun _ _ => by kernel_rfl
theorem k_en198 : ZS Tryz.prog 198 := fun _ _ => by kernel_rfl
theorem ZQe : ZS Tryz.prog 20 := fun _ _ => by kernel_rfl
theorem Zcg : ZS Tryz.prog 21 := fun _ _ => by kernel_rfl
theorem ZQm : ZS Tryz.prog 25 := fun _ _ => by kernel_rfl
theorem k_en26 : ZS Tryz.prog 26 := fun _ _ => by kernel_rfl
theorem ZEc : ZS Tryz.prog 28 := fun _ _ => by kernel_rfl
theorem Z1e : ZS Tryz.prog 29 := fun _ _ => by kernel_rfl
theorem Z9e : ZS Tryz.prog 30 := fun _ _ => by kernel_rfl
theorem Z4d : ZS Tryz.prog 31 := fun _ _ => by kernel_rfl
theorem Zjj : ZS Tryz.prog 32 := fun _ _ => by kernel_rfl
theorem Zwe : ZS Tryz.prog 35 := fun _ _ => by kernel_rfl
theorem ZId : ZS Tryz.prog 37 := fun _ _ => by kernel_rfl
theorem Zpl : ZS Tryz.prog 38 := fun _ _ => by kernel_rfl
theorem k_en39 : ZS Tryz.prog 39 := fun _ _ => by kernel_rfl
theorem ZCh : ZS Tryz.prog 40 := fun _ _ => by kernel_rfl
theorem Zxg : ZS Tryz.prog 41 := fun _ _ => by kernel_rfl
theorem k_en52 : ZS Tryz.prog 52 := fun _ _ => by kernel_rfl
theorem k_en54 : ZS Tryz.prog 54 := fun _ _ => by kernel_rfl
theorem Zpf : ZS Tryz.prog 61 := fun _ _ => by kernel_rfl
theorem Zcf : ZS Tryz.prog 62 := fun _ _ => by kernel_rfl
theorem ZIl : ZS Tryz.prog 63 := fun _ _ => by kernel_rfl
theorem Z9i : ZS Tryz.prog 64 := fun _ _ => by kernel_rfl
theorem ZGh : ZS Tryz.prog 65 := fun _ _ => by kernel_rfl
theorem Zdn : ZS Tryz.prog 66 := fun _ _ => by kernel_rfl
theorem ZVg : ZS Tryz.prog 67 := fun _ _ => by kernel_rfl
theorem k_en68 : ZS Tryz.prog 68 := fun _ _ => by kernel_rfl
theorem k_en69 : ZS Tryz.prog 69 := fun _ _ => by kernel_rfl
theorem Zsn : ZS Tryz.prog 70 := fun _ _ => by kernel_rfl
theorem ZKf : ZS Tryz.prog 80 := fun _ _ => by kernel_rfl
theorem k_en81 : ZS Tryz.prog 81 := fun _ _ => by kernel_rfl
theorem Zkl : ZS Tryz.prog 82 := fun _ _ => by kernel_rfl
theorem Zfd : ZS Tryz.prog 84 := fun _ _ => by kernel_rfl
theorem ZJd : ZS Tryz.prog 85 := fun _ _ => by kernel_rfl
theorem ZNi : ZS Tryz.prog 86 := fun _ _ => by kernel_rfl
theorem Zig : ZS Tryz.prog 87 := fun _ _ => by kernel_rfl
theorem ZLh : ZS Tryz.prog 88 := fun _ _ => by kernel_rfl
theorem k_en89 : ZS Tryz.prog 89 := fun _ _ => by kernel_rfl
theorem k_en90 : ZS Tryz.prog 90 := fun _ _ => by kernel_rfl
theorem Zjg : ZS Tryz.prog 91 := fun _ _ => by kernel_rfl
theorem k_en93 : ZS Tryz.prog 93 := fun _ _ => by kernel_rfl
theorem k_en94 : ZS Tryz.prog 94 := fun _ _ => by kernel_rfl
theorem Z3j : ZS Tryz.prog 95 := fun _ _ => by kernel_rfl
theorem k_en97 : ZS Tryz.prog 97 := fun _ _ => by kernel_rfl
theorem k_en98 : ZS Tryz.prog 98 := fun _ _ => by kernel_rfl
theorem Zdh : ZS Tryz.prog 99 := fun _ _ => by kernel_rfl
theorem ZEh : EqB Tryz.prog 4 := fun _ _ _ => by kernel_rfl
theorem ZFj : Tryz.prog.eqGuardType Tryz.prog.depth 135 = false := by kernel_rfl
theorem ZXh : ∀ (a0 b0 a1 b1 : Int) (w : World), (binOp .eql 135 (.agg #[.int .i64 a0, .int .i64 a1]) (.agg #[.int .i64 b0, .int .i64 b1])).run Tryz.prog w = .ok (.bool (Bool.and (a0 == b0) (Bool.and (a1 == b1) (true)))) w := fun a0 b0 a1 b1 w => run_eqS w (by kernel_rfl) (by kernel_rfl) rfl (ZEl (k := .i64) (k' := .i64) w (by decide) (by kernel_rfl) (by kernel_rfl) (by kernel_rfl) (ZEl (k := .i64) (k' := .i64) w (by decide) (by kernel_rfl) (by kernel_rfl) (by kernel_rfl) rfl))
theorem ZYg : Zxf Tryz.prog 148 add64Entry := ⟨_, Tryz.func148, by kernel_rfl, by kernel_rfl, by kernel_rfl, by kernel_rfl⟩
theorem Z1l : Zxf Tryz.prog 180 Zbk := ⟨_, Tryz.func180, by kernel_rfl, by kernel_rfl, by kernel_rfl, by kernel_rfl⟩
theorem Z4m : Zhb Tryz.prog 100 0 0 := fun _ _ _ => by kernel_rfl
theorem Zgf : Zhb Tryz.prog 100 1 3 := fun _ _ _ => by kernel_rfl
theorem ZNj : Zhb Tryz.prog 129 0 0 := fun _ _ _ => by kernel_rfl
theorem Zmk : Zhb Tryz.prog 129 1 3 := fun _ _ _ => by kernel_rfl
theorem ZBf : Zhb Tryz.prog 131 0 0 := fun _ _ _ => by kernel_rfl
theorem ZAf : Zhb Tryz.prog 131 1 3 := fun _ _ _ => by kernel_rfl
theorem Zvn : Zhb Tryz.prog 133 0 0 := fun _ _ _ => by kernel_rfl
theorem ZYj : Zhb Tryz.prog 133 1 3 := fun _ _ _ => by kernel_rfl
theorem Z5g : Zhb Tryz.prog 135 0 0 := fun _ _ _ => by kernel_rfl
theorem Zoj : Zhb Tryz.prog 135 1 1 := fun _ _ _ => by kernel_rfl
theorem Zpd : Zhb Tryz.prog 214 0 0 := fun _ _ _ => by kernel_rfl
theorem ZPe : Zhb Tryz.prog 214 1 3 := fun _ _ _ => by kernel_rfl
theorem Z4a : Zhb Tryz.prog 32 0 0 := fun _ _ _ => by kernel_rfl
theorem Z5a : Zhb Tryz.prog 32 1 1 := fun _ _ _ => by kernel_rfl
theorem Z0a : Zhb Tryz.prog 34 0 0 := fun _ _ _ => by kernel_rfl
theorem Zwb : Zhb Tryz.prog 34 1 2 := fun _ _ _ => by kernel_rfl
theorem ZUa : Zhb Tryz.prog 42 0 0 := fun _ _ _ => by kernel_rfl
theorem Zjc : Zhb Tryz.prog 42 1 1 := fun _ _ _ => by kernel_rfl
theorem ZGk : Zhb Tryz.prog 42 2 2 := fun _ _ _ => by kernel_rfl
theorem Zvj : Zhb Tryz.prog 50 0 0 := fun _ _ _ => by kernel_rfl
theorem Z5i : Zhb Tryz.prog 50 1 1 := fun _ _ _ => by kernel_rfl
theorem ZIi : Zhb Tryz.prog 53 0 0 := fun _ _ _ => by kernel_rfl
theorem Zkj : Zhb Tryz.prog 53 1 3 := fun _ _ _ => by kernel_rfl
theorem ZNn : Zhb Tryz.prog 53 2 6 := fun _ _ _ => by kernel_rfl
theorem Zik : Zhb Tryz.prog 98 0 0 := fun _ _ _ => by kernel_rfl
theorem Zng : Zhb Tryz.prog 98 1 2 := fun _ _ _ => by kernel_rfl
theorem Z9 : Tryz.prog.follows .mixedOrders = true := by kernel_rfl
theorem ZPc : NeB Tryz.prog 4 := fun _ _ _ => by kernel_rfl
theorem ZPd : Zxc Tryz.prog 123 129 6 := ⟨fun _ => by kernel_rfl, fun _ => by kernel_rfl⟩
theorem Ztb : Zxc Tryz.prog 124 214 6 := ⟨fun _ => by kernel_rfl, fun _ => by kernel_rfl⟩
theorem Z2e : Zxc Tryz.prog 127 131 6 := ⟨fun _ => by kernel_rfl, fun _ => by kernel_rfl⟩
theorem Zmb : Zxc Tryz.prog 22 28 1 := ⟨fun _ => by kernel_rfl, fun _ => by kernel_rfl⟩
theorem Zjk : Zxc Tryz.prog 263 9 1 := ⟨fun _ => by kernel_rfl, fun _ => by kernel_rfl⟩
theorem Zoc : Zxc Tryz.prog 28 3 1 := ⟨fun _ => by kernel_rfl, fun _ => by kernel_rfl⟩
theorem ZU : Zxc Tryz.prog 30 211 1 := ⟨fun _ => by kernel_rfl, fun _ => by kernel_rfl⟩
theorem Zma : Zxc Tryz.prog 40 212 1 := ⟨fun _ => by kernel_rfl, fun _ => by kernel_rfl⟩
theorem Zdd : Zxc Tryz.prog 80 34 3 := ⟨fun _ => by kernel_rfl, fun _ => by kernel_rfl⟩
theorem Zjf : Zxc Tryz.prog 94 98 4 := ⟨fun _ => by kernel_rfl, fun _ => by kernel_rfl⟩
theorem Zll : Zxc Tryz.prog 96 50 2 := ⟨fun _ => by kernel_rfl, fun _ => by kernel_rfl⟩
theorem Zsf : Sized Tryz.prog 100 4 true := ⟨fun _ => by kernel_rfl, fun _ => by kernel_rfl⟩
theorem Ztk : Sized Tryz.prog 102 4 true := ⟨fun _ => by kernel_rfl, fun _ => by kernel_rfl⟩
theorem ZKm : Sized Tryz.prog 129 6 true := ⟨fun _ => by kernel_rfl, fun _ => by kernel_rfl⟩
theorem Zfg : Sized Tryz.prog 131 6 true := ⟨fun _ => by kernel_rfl, fun _ => by kernel_rfl⟩
theorem k_sz133 : Sized Tryz.prog 133 6 true := ⟨fun _ => by kernel_rfl, fun _ => by kernel_rfl⟩
theorem ZGc : Sized Tryz.prog 135 2 true := ⟨fun _ => by kernel_rfl, fun _ => by kernel_rfl⟩
theorem ZDe : Sized Tryz.prog 2 1 false := ⟨fun _ => by kernel_rfl, fun _ => by kernel_rfl⟩
theorem ZBa : Sized Tryz.prog 211 1 false := ⟨fun _ => by kernel_rfl, fun _ => by kernel_rfl⟩
theorem Zjb : Sized Tryz.prog 212 1 false := ⟨fun _ => by kernel_rfl, fun _ => by kernel_rfl⟩
theorem ZFm : Sized Tryz.prog 214 6 true := ⟨fun _ => by kernel_rfl, fun _ => by kernel_rfl⟩
theorem ZLe : Sized Tryz.prog 22 1 false := ⟨fun _ => by kernel_rfl, fun _ => by kernel_rfl⟩
theorem Zwj : Sized Tryz.prog 28 1 false := ⟨fun _ => by kernel_rfl, fun _ => by kernel_rfl⟩
theorem Zzb : Sized Tryz.prog 3 1 false := ⟨fun _ => by kernel_rfl, fun _ => by kernel_rfl⟩
theorem Zxa : Sized Tryz.prog 30 1 false := ⟨fun _ => by kernel_rfl, fun _ => by kernel_rfl⟩
theorem ZQa : Sized Tryz.prog 32 2 true := ⟨fun _ => by kernel_rfl, fun _ => by kernel_rfl⟩
theorem Zz : Sized Tryz.prog 34 3 true := ⟨fun _ => by kernel_rfl, fun _ => by kernel_rfl⟩
theorem Zka : Sized Tryz.prog 4 1 false := ⟨fun _ => by kernel_rfl, fun _ => by kernel_rfl⟩
theorem ZTb : Sized Tryz.prog 40 1 false := ⟨fun _ => by kernel_rfl, fun _ => by kernel_rfl⟩
theorem ZQ : Sized Tryz.prog 42 3 true := ⟨fun _ => by kernel_rfl, fun _ => by kernel_rfl⟩
theorem k_sz5 : Sized Tryz.prog 5 1 false := ⟨fun _ => by kernel_rfl, fun _ => by kernel_rfl⟩
theorem Zta : Sized Tryz.prog 50 2 true := ⟨fun _ => by kernel_rfl, fun _ => by kernel_rfl⟩
theorem ZRc : Sized Tryz.prog 53 9 true := ⟨fun _ => by kernel_rfl, fun _ => by kernel_rfl⟩
theorem ZXk : Sized Tryz.prog 55 9 true := ⟨fun _ => by kernel_rfl, fun _ => by kernel_rfl⟩
theorem Zqf : Sized Tryz.prog 80 1 false := ⟨fun _ => by kernel_rfl, fun _ => by kernel_rfl⟩
theorem k_sz9 : Sized Tryz.prog 9 1 false := ⟨fun _ => by kernel_rfl, fun _ => by kernel_rfl⟩
theorem Zbi : Sized Tryz.prog 98 4 true := ⟨fun _ => by kernel_rfl, fun _ => by kernel_rfl⟩
theorem ZMl : ∀ w, (zeroValue 100).run Tryz.prog w = .ok (Value.agg #[Value.bool false, Value.slice none 0 0, Value.slice none 0 0, Value.slice none 0 0]) w := fun _ => by kernel_rfl
theorem Zql : ∀ w, (zeroValue 102).run Tryz.prog w = .ok (Value.agg #[Value.bool false, Value.slice none 0 0, Value.slice none 0 0, Value.slice none 0 0]) w := fun _ => by kernel_rfl
theorem k_zv129 : ∀ w, (zeroValue 129).run Tryz.prog w = .ok (Value.agg #[Value.bool false, Value.slice none 0 0, Value.slice none 0 0, Value.bool false, Value.slice none 0 0, Value.slice none 0 0]) w := fun _ => by kernel_rfl
theorem ZUk : ∀ w, (zeroValue 131).run Tryz.prog w = .ok (Value.agg #[Value.bool false, Value.slice none 0 0, Value.slice none 0 0, Value.bool false, Value.slice none 0 0, Value.slice none 0 0]) w := fun _ => by kernel_rfl
theorem Zbg : ∀ w, (zeroValue 135).run Tryz.prog w = .ok (Value.agg #[Value.int IntKind.i64 0, Value.int IntKind.i64 0]) w := fun _ => by kernel_rfl
theorem k_zv214 : ∀ w, (zeroValue 214).run Tryz.prog w = .ok (Value.agg #[Value.bool false, Value.slice none 0 0, Value.slice none 0 0, Value.bool false, Value.slice none 0 0, Value.slice none 0 0]) w := fun _ => by kernel_rfl
theorem k_zv270 : ∀ w, (zeroValue 270).run Tryz.prog w = .ok (Value.agg #[Value.pointer none, Value.slice none 0 0]) w := fun _ => by kernel_rfl
theorem k_zv291 : ∀ w, (zeroValue 291).run Tryz.prog w = .ok (Value.agg #[Value.int IntKind.u8 0, Value.int IntKind.u8 0, Value.int IntKind.u8 0, Value.int IntKind.u8 0, Value.int IntKind.u8 0, Value.int IntKind.u8 0, Value.int IntKind.u8 0, Value.int IntKind.u8 0, Value.int IntKind.u8 0, Value.int IntKind.u8 0, Value.int IntKind.u8 0, Value.int IntKind.u8 0, Value.int IntKind.u8 0, Value.int IntKind.u8 0, Value.int IntKind.u8 0, Value.int IntKind.u8 0, Value.int IntKind.u8 0, Value.int IntKind.u8 0, Value.int IntKind.u8 0, Value.int IntKind.u8 0]) w := fun _ => by kernel_rfl
theorem Zid : ∀ w, (zeroValue 32).run Tryz.prog w = .ok (Value.agg #[Value.bool false, Value.slice none 0 0]) w := fun _ => by kernel_rfl
theorem ZGa : ∀ w, (zeroValue 34).run Tryz.prog w = .ok (Value.agg #[Value.bool false, Value.slice none 0 0, Value.slice none 0 0]) w := fun _ => by kernel_rfl
theorem ZPb : ∀ w, (zeroValue 42).run Tryz.prog w = .ok (Value.agg #[Value.bool false, Value.slice none 0 0, Value.slice none 0 0]) w := fun _ => by kernel_rfl
theorem k_zv50 : ∀ w, (zeroValue 50).run Tryz.prog w = .ok (Value.agg #[Value.int IntKind.i64 0, Value.int IntKind.i64 0]) w := fun _ => by kernel_rfl
theorem Zem : ∀ w, (zeroValue 53).run Tryz.prog w = .ok (Value.agg #[Value.bool false, Value.slice none 0 0, Value.slice none 0 0, Value.bool false, Value.slice none 0 0, Value.slice none 0 0, Value.bool false, Value.slice none 0 0, Value.slice none 0 0]) w := fun _ => by kernel_rfl
theorem Zin : ∀ w, (zeroValue 55).run Tryz.prog w = .ok (Value.agg #[Value.bool false, Value.slice none 0 0, Value.slice none 0 0, Value.bool false, Value.slice none 0 0, Value.slice none 0 0, Value.bool false, Value.slice none 0 0, Value.slice none 0 0]) w := fun _ => by kernel_rfl
theorem ZYl : ∀ w, (zeroValue 98).run Tryz.prog w = .ok (Value.agg #[Value.int IntKind.i64 0, Value.int IntKind.i64 0, Value.int IntKind.i64 0, Value.int IntKind.i64 0]) w := fun _ => by kernel_rfl
theorem cut_w {e : World} {d : Zd} (hv : VIn d e) {E : List Value} {a : (List Int)} (F : Rep.rel (Zu (Za .u64)) d E a) {z : (List Int)} (H : ZHi a = some z) : Ret Tryz.prog 149 #[(Zu (Za .u64)).val E] e d (fun y v' => ∃ G, y = (Zu (Za .u64)).val G ∧ (Zu (Za .u64)).rel v' G z) := by
  obtain ⟨M, N, O, rfl⟩ := Zua F; refine ZT (K := 21) (args := [.slice M (N) O]) hv Tryz.func149 rfl rfl zl fun f S => ?_; unfold ZHi at H; refine sr ?_; have S := S.nilLoc 211 1; refine ov S rfl (Zga S (y := .slice (mkA none) 0 0) rfl) fun f S => oe (Zh fun _ P => ?_); obtain ⟨Q, R, T⟩ := Zb H; refine ZP (fun f w => ∃ (B : (List Int)) (j : Option Addr) (k : Nat) (l : Nat) (m : Zd), B = Q ∧ Zd.le d m ∧ St 21 e d [(0, .slice j (k) l)] [] m f w ∧ Rep.rel (Zu (Za .u64)) m [.slice j (k) l] B) (fun _ U => ?_) ?_
  · have H := R; refine wp_block ?_; obtain ⟨am, V, W⟩ := Zb H; have S := S.reorder (ℓ' := []) [] rfl (by decide); refine Zra V (fun X f w => ∃ (n : (List Int)) (o : Option Addr) (q : Nat) (s : Nat) (g : Zd), n = X ∧ Zd.le d g ∧ St 21 e d [(0, .slice o (q) s)] [] g f w ∧ Rep.rel (Zu (Za .u64)) g [.slice o (q) s] n) ⟨_, _, _, _, _, rfl, (leR _), (S.fr' rfl), F⟩ ?_; rintro _ f w st ⟨n, o, q, s, g, hq, I, S, c⟩ H an Y Z; subst hq; refine Zh fun _ aa => Zh fun _ ab => ?_; obtain ⟨ac, ad, ae⟩ := Zb H; refine ZP (fun f w => ∃ (u : Bool) (C : Zd), u = ac ∧ Zd.le g C ∧ St 21 e d [(0, .slice o (q) s), (14, .bool (u))] [] C f w) (fun _ J => ?_) ?_
    · have H := ad; rcases Zw (decide ((0 : Int) < (n.length : Int))) with h | h
      · have H := Zy H h; obtain ⟨ao, af, H⟩ := Zb H; obtain ⟨ap, D, H⟩ := Zb H; refine Zm (mv S rfl fun f S => ov S rfl (ZJ S (Zv c) rfl rfl ZU) fun f S => ov S rfl (Zi S rfl rfl Zya) fun f S => ?_); have S := S.bool (t := 5) rfl h; refine mv S rfl fun f S => opy S rfl rfl rfl rfl (Zp S rfl) fun f S => opy S rfl rfl rfl rfl (Zp S rfl) fun f S => opy S rfl rfl rfl rfl (ZJ S (Zv c) rfl rfl ZU) fun f S => opy S rfl rfl rfl rfl (Zi S rfl rfl (ZMa af)) fun f S => ?_; obtain ⟨_, aq, ar, au, rfl, ag, ah⟩ := Zoa c (Zk D).2.1; obtain ⟨rfl, av⟩ := ah; refine opy S rfl rfl rfl rfl (ZR S rfl rfl ZU (Zk D).1 (ltI (Zv c) (Zk D).2.2.1)) fun f S => opy S rfl rfl rfl rfl (Zca S rfl ZBa (S.view ag)) fun f S => opy S rfl rfl rfl rfl (Zi S rfl rfl Z1) fun f S => ov S rfl (ZI S (b := true) rfl rfl) fun f S => Zl ?_; obtain rfl := Zf H; refine Zc (J _ _ ⟨_, _, rfl, (leR _), (S.fr' rfl)⟩)
      have H := Zx H h; refine Zm (mv S rfl fun f S => ov S rfl (ZJ S (Zv c) rfl rfl ZU) fun f S => ov S rfl (Zi S rfl rfl Zya) fun f S => ?_); have S := S.bool (t := 5) rfl h; refine mv S rfl fun f S => opn S rfl rfl rfl rfl fun f S => opn S rfl rfl rfl rfl fun f S => opn S rfl rfl rfl rfl fun f S => opn S rfl rfl rfl rfl fun f S => opn S rfl rfl rfl rfl fun f S => opn S rfl rfl rfl rfl fun f S => opn S rfl rfl rfl rfl fun f S => ov S rfl (ZI S (b := false) rfl rfl) fun f S => Zl ?_; obtain rfl := Zf H; refine Zc (J _ _ ⟨_, _, rfl, (leR _), (S.fr' rfl)⟩)
    rintro f w ⟨u, C, hq, v, S⟩; subst hq; have H := ae; refine Zc (ab _ _ ?_); rcases Zw (u) with i | i
    · have H := Zy H i; refine ZD S rfl i (wp_skip (Zc (aa _ _ (wp_block ?_)))); obtain ⟨ai, aj, H⟩ := Zb H; obtain ⟨aw, x, H⟩ := Zb H; refine Zm (mv S rfl fun f S => mv S rfl fun f S => ?_); have c := Zn v c; refine ov S rfl (ZJ S (Zv c) rfl rfl ZU) fun f S => ov S rfl (Zi S rfl rfl (ZMa aj)) fun f S => ?_; obtain ⟨ax, ay, ak, L⟩ := ZBi S (A := (Za .u64)) (p := (0 : Int)) (r := ai) ZU c (ZBb x).1 (ZBb x).2.1 (ZBb x).2.2.1; rw [← (ZBb x).2.2.2.1] at L; refine ov S rfl (ak rfl (.inl ⟨rfl, rfl⟩) (.inr ⟨_, _, rfl, rfl⟩)) fun f S => mw S rfl fun f S => Zl (Zpa ?_); obtain rfl := Zf H; refine Y _ rfl _ _ ⟨_, _, _, _, _, rfl, (leT I v), (S.fr' rfl), L⟩
    have H := Zx H i; refine ZE S rfl i (wp_exit (ZL ?_)); obtain rfl := Zf H; have hq := Z _ rfl; subst hq; have H := W; refine ZL (Zja ?_); obtain rfl := Zf H; have c := Zn v c; refine Zc (U _ _ ⟨_, _, _, _, _, rfl, (leT (leT (leR _) I) v), (S.fr' rfl), c⟩)
  rintro f w ⟨B, j, k, l, m, hq, az, S, al⟩; subst hq; have H := T; refine Zc (P _ _ (sr (mv S rfl fun f S => mw S rfl fun f S => oe (wp_ret ?_)))); obtain rfl := Zf H; refine ZA S (ZM rfl (ZB S rfl)) ⟨[.slice j (k) l], rfl, al⟩
theorem ZQd {d : World} {b : Zd} (hv : VIn b d) {e : List Value} {a : (List Int)} (c : Rep.rel (Zu (Za .u64)) b e a) {z : Nat} (hm : Zyb a = some z) :
    Ret Tryz.prog 149 #[(Zu (Za .u64)).val e] d b (fun y v' => ∃ f, y = ZF.val f ∧ ZF.rel v' f z) :=
  by cases hm; exact cut_w hv c (cut_eq (ZMk c).1 (ZMk c).2)
theorem word_w {b : World} {a : Zd} (hv : VIn a b) {c : List Value} {n : Int} (h : Rep.rel (Za .u64) a c n) {z : Nat} (H : ZMi n = some z) : Ret Tryz.prog 139 #[(Za .u64).val c] b a (fun y v' => ∃ d, y = ZF.val d ∧ ZF.rel v' d z) := by
  obtain ⟨rfl, j⟩ := h; refine ZT (K := 6) (args := [.int .u64 (n)]) hv Tryz.func139 rfl rfl zl fun f S => ?_; unfold ZMi at H; refine sr (mw S rfl fun f S => oe (Zh fun _ k => ?_)); obtain ⟨u, m, H⟩ := Zb H; refine Zm (mv S rfl fun f S => ?_); obtain ⟨e, w, o, S⟩ := ZTa S (n := 1) (cs := [.int .u64 (n)]) (vals := [(0, .int .u64 (n))]) (sz := 1) rfl (by decide) (Zqb Z4c (x := .int .u64 (n)) (cs := [.int .u64 (n)]) rfl rfl (by decide)); have p : Rep.rels (Za .u64) a [.int .u64 (n)] [n] := (ZLa (Zr j) ZDa); refine Zva wn rfl zl (o rfl) S fun f S => ?_; obtain ⟨v, B, S, q⟩ := S.pubSlice (i := 0) (A := (Za .u64)) (l := [n]) (ℓ' := []) rfl rfl rfl p rfl; refine opc S rfl (Zo S [.slice (mkA (some e)) (1) 1] ZHd rfl rfl) (ZQd S.vin (show Rep.rel (Zu (Za .u64)) _ [.slice (mkA (some e)) (1) 1] ([n]) from q) m) ?_; rintro _ C f w D ⟨E, rfl, g⟩ S; obtain ⟨r, s, t, rfl⟩ := Zaa g; refine mw S rfl fun f S => Zl (Zc (k _ _ (wp_ret ?_))); obtain rfl := Zf H; refine ZA S (ZM rfl (ZB S rfl)) ⟨[.slice r s t], rfl, g⟩
theorem ZUe {b : World} {a : Zd} (hv : VIn a b) {c : List Value} {n : Int} (e : Rep.rel (Za .u64) a c n) {z : Nat} (hm : Zbc n = some z) :
    Ret Tryz.prog 139 #[(Za .u64).val c] b a (fun y v' => ∃ d, y = ZF.val d ∧ ZF.rel v' d z) :=
  word_w hv e (Zuo hm)
theorem of_w {k : World} {j : Zd} (hv : VIn j k) {l : List Value} {n : Int} (q : Rep.rel (Za .i64) j l n) {z : Int} (H : of_m n = some z) : Ret Tryz.prog 88 #[(Za .i64).val l] k j (fun y v' => ∃ m, y = Zea.val m ∧ Zea.rel v' m z) := by
  obtain ⟨rfl, G⟩ := q; refine ZT (K := 14) (args := [.int .i64 (n)]) hv Tryz.func88 rfl rfl zl fun f S => ?_; unfold of_m at H; refine sr (Z2 S wn rfl zl (cs := [.bool false, .slice none 0 0]) (ZX Zid) fun I f w S => oe (Zh fun _ r => sr (mv S rfl fun f S => ov S rfl (Zi S rfl rfl Z7) fun f S => oe ?_))); rcases Zw (decide (n < (0 : Int))) with a | a
  · have H := Zy H a; refine ZD S rfl a (Zh fun _ t => ?_); obtain ⟨J, u, H⟩ := Zb H; refine Zm (mv S rfl fun f S => ov S rfl (ZOa S rfl (ZDj _)) fun f S => ov S rfl (Zrl S rfl) fun f S => opc S rfl (Zo S [.int .u64 (IntKind.u64.wrap (-(IntKind.u64.wrap n)))] ZWe rfl rfl) (ZUe S.vin (show Rep.rel (Za .u64) _ [.int .u64 (IntKind.u64.wrap (-(IntKind.u64.wrap n)))] (IntKind.u64.wrap (-(IntKind.u64.wrap n))) from (Zr (ZAa _ _))) u) ?_); rintro _ L f w M ⟨N, rfl, o⟩ S; obtain ⟨b, c, d, rfl⟩ := Zaa o; refine ov S rfl (Zqa S [(0, .bool (true)), (1, .slice b c d)] rfl (z := .agg #[.bool (true), .slice b c d]) (by kernel_rfl)) fun f S => ?_; obtain ⟨w, v, S⟩ := sbp S [.bool (true), .slice b c d] ZQa 0 0 rfl; refine ZY wn rfl (v rfl rfl) (Zl (Zc (t _ _ (wp_ret (ZK ?_))))); obtain ⟨O, x, H⟩ := Zb H; have A := Zgj (s := true) o x; obtain rfl := Zf H; refine ZA S (ZM rfl (Zac S rfl ZQa rfl (S.box (i := 0) rfl 0 [.bool (true), .slice b c d] rfl))) ⟨[.bool (true), .slice b c d], rfl, A⟩
  have H := Zx H a; refine ZE S rfl a (wp_skip (Zc (r _ _ (Zh fun _ B => ?_)))); obtain ⟨P, C, H⟩ := Zb H; refine Zm (mv S rfl fun f S => ov S rfl (ZOa S rfl (ZDj _)) fun f S => opc S rfl (Zo S [.int .u64 (IntKind.u64.wrap n)] ZWe rfl rfl) (ZUe S.vin (show Rep.rel (Za .u64) _ [.int .u64 (IntKind.u64.wrap n)] (IntKind.u64.wrap n) from (Zr (ZAa _ _))) C) ?_); rintro _ Q f w R ⟨T, rfl, p⟩ S; obtain ⟨e, g, h, rfl⟩ := Zaa p; refine ov S rfl (Zqa S [(0, .bool (false)), (1, .slice e g h)] rfl (z := .agg #[.bool (false), .slice e g h]) (by kernel_rfl)) fun f S => ?_; obtain ⟨w, D, S⟩ := sbp S [.bool (false), .slice e g h] ZQa 0 0 rfl; refine ZY wn rfl (D rfl rfl) (Zl (Zc (B _ _ (wp_ret ?_)))); obtain ⟨U, E, H⟩ := Zb H; have F := Zgj (s := false) p E; obtain rfl := Zf H; refine ZA S (ZM rfl (Zac S rfl ZQa rfl (S.box (i := 0) rfl 0 [.bool (false), .slice e g h] rfl))) ⟨[.bool (false), .slice e g h], rfl, F⟩
theorem of_c {b : World} {a : Zd} (hv : VIn a b) {c : List Value} {n : Int} (d : Rep.rel (Za .i64) a c n) {z : Int} (hm : ofF n = some z) :
    Ret Tryz.prog 88 #[(Za .i64).val c] b a (fun y v' => ∃ e, y = Zea.val e ∧ Zea.rel v' e z) :=
  of_w hv d (ofF_eq d.2 hm)
theorem qint_w {g : World} {e : Zd} (hv : VIn e g) {h : List Value} {n : Int} (k : Rep.rel (Za .i64) e h n) {z : Rat} (H : Zpi n = some z) : Ret Tryz.prog 20 #[(Za .i64).val h] g e (fun y v' => ∃ i, y = Zg.val i ∧ Zg.rel v' i z) := by
  obtain ⟨rfl, l⟩ := k; refine ZT (K := 6) (args := [.int .i64 (n)]) hv Tryz.func20 rfl rfl zl fun f S => ?_; unfold Zpi at H; refine sr (Z2 S wn rfl zl (cs := [.bool false, .slice none 0 0, .slice none 0 0]) (ZX ZGa) fun s f w S => oe (Zh fun _ m => ?_)); obtain ⟨t, o, H⟩ := Zb H; refine Zm (mv S rfl fun f S => opc S rfl (Zo S [.int .i64 (n)] ZLh rfl rfl) (of_c S.vin (show Rep.rel (Za .i64) _ [.int .i64 (n)] n from (Zr l)) o) ?_); rintro _ u f w v ⟨x, rfl, j⟩ S; obtain ⟨a, b, c, d, rfl⟩ := ZZa j; refine ov S rfl (Zqa S [(0, .agg #[.bool a, .slice b c d])] rfl (z := .agg #[.bool a, .slice b c d, .slice none 0 0]) (by kernel_rfl)) fun f S => ?_; obtain ⟨w, p, S⟩ := sbp S [.bool a, .slice b c d, .slice none 0 0] Zz 0 0 rfl; refine ZY wn rfl (p rfl rfl) (Zl (Zc (m _ _ (wp_ret ?_)))); obtain ⟨A, q, H⟩ := Zb H; have r := ZOi j (Zzf _) q; obtain rfl := Zf H; refine ZA S (ZM rfl (ZCa S rfl Zz 0 rfl rfl)) ⟨[.bool a, .slice b c d, .slice none 0 0], rfl, r⟩
theorem Zye {b : World} {a : Zd} (hv : VIn a b) {c : List Value} {n : Int} (e : Rep.rel (Za .i64) a c n) {z : Rat} (hm : Zud n = some z) :
    Ret Tryz.prog 20 #[(Za .i64).val c] b a (fun y v' => ∃ d, y = Zg.val d ∧ Zg.rel v' d z) :=
  qint_w hv e (ZDp hm)
theorem len64_w {b : World} {a : Zd} (hv : VIn a b) {q : List Value} {x : Int} (J : Rep.rel (Za .u64) a q x) {z : Int} (H : Zkh x = some z) : Ret Tryz.prog 196 #[(Za .u64).val q] b a (fun y v' => ∃ r, y = (Za .i64).val r ∧ (Za .i64).rel v' r z) := by
  obtain ⟨rfl, s⟩ := J; refine ZT (K := 25) (args := [.int .u64 (x)]) hv Tryz.func196 rfl rfl zl fun f S => ?_; unfold Zkh at H; refine sr (mw S rfl fun f S => oe (Zh fun _ L => sr (mv S rfl fun f S => ov S rfl (Zi S rfl rfl Zgb) fun f S => oe ?_))); obtain ⟨M, N, O⟩ := Zb H; refine ZP (fun f w => ∃ (c : Int) (i : Int) (j : Zd), (c, i) = M ∧ Zd.le a j ∧ St 25 b a [(0, .int .u64 (c)), (2, .int .i64 (i))] [] j f w ∧ inR .u64 c ∧ inR .i64 i) (fun _ t => ?_) ?_
  · have H := N; rcases Zw (decide ((4294967296 : Int) ≤ x)) with d | d
    · have H := Zy H d; refine ZD S rfl d (Zh fun _ P => ?_); obtain ⟨ag, u, H⟩ := Zb H; refine Zm (mv S rfl fun f S => ov S rfl (Zi S rfl rfl (ZCb u)) fun f S => mw S rfl fun f S => Zl (Zc (P _ _ (Zm (mw S rfl fun f S => Zl ?_))))); obtain rfl := Zf H; refine Zc (t _ _ ⟨_, _, _, rfl, (leR _), (S.fr' rfl), (ZXd s u), (by decide)⟩)
    have H := Zx H d; refine ZE S rfl d (wp_skip ?_); obtain rfl := Zf H; refine Zc (t _ _ ⟨_, _, _, rfl, (leR _), (S.fr' rfl), s, (by decide)⟩)
  rintro f w ⟨c, i, j, hq, ah, S, v, Q⟩; subst hq; have H := O; refine Zc (L _ _ (Zh fun _ R => sr (mv S rfl fun f S => ov S rfl (Zi S rfl rfl Zgb) fun f S => oe ?_))); obtain ⟨T, U, V⟩ := Zb H; refine ZP (fun f w => ∃ (e : Int) (k : Int) (m : Zd), (e, k) = T ∧ Zd.le j m ∧ St 25 b a [(0, .int .u64 (e)), (2, .int .i64 (k))] [] m f w ∧ inR .u64 e ∧ inR .i64 k) (fun _ A => ?_) ?_
  · have H := U; rcases Zw (decide ((65536 : Int) ≤ c)) with g | g
    · have H := Zy H g; refine ZD S rfl g (Zh fun _ W => ?_); obtain ⟨ai, B, H⟩ := Zb H; refine Zm (mv S rfl fun f S => ov S rfl (Zi S rfl rfl (ZCb B)) fun f S => mw S rfl fun f S => Zl (Zc (W _ _ ?_))); obtain ⟨aj, C, H⟩ := Zb H; refine Zm (mv S rfl fun f S => ov S rfl (Zi S rfl rfl (Zfa C)) fun f S => mw S rfl fun f S => Zl ?_); obtain rfl := Zf H; refine Zc (A _ _ ⟨_, _, _, rfl, (leR _), (S.fr' rfl), (ZXd v B), (Z4 C).2⟩)
    have H := Zx H g; refine ZE S rfl g (wp_skip ?_); obtain rfl := Zf H; refine Zc (A _ _ ⟨_, _, _, rfl, (leR _), (S.fr' rfl), v, Q⟩)
  rintro f w ⟨e, k, m, hq, ak, S, D, X⟩; subst hq; have H := V; refine Zc (R _ _ (Zh fun _ Y => sr (mv S rfl fun f S => ov S rfl (Zi S rfl rfl Zgb) fun f S => oe ?_))); obtain ⟨Z, aa, ab⟩ := Zb H; refine ZP (fun f w => ∃ (n : Int) (o : Int) (p : Zd), (n, o) = Z ∧ Zd.le m p ∧ St 25 b a [(0, .int .u64 (n)), (2, .int .i64 (o))] [] p f w ∧ inR .u64 n ∧ inR .i64 o) (fun _ E => ?_) ?_
  · have H := aa; rcases Zw (decide ((256 : Int) ≤ e)) with h | h
    · have H := Zy H h; refine ZD S rfl h (Zh fun _ ac => ?_); obtain ⟨al, F, H⟩ := Zb H; refine Zm (mv S rfl fun f S => ov S rfl (Zi S rfl rfl (ZCb F)) fun f S => mw S rfl fun f S => Zl (Zc (ac _ _ ?_))); obtain ⟨am, G, H⟩ := Zb H; refine Zm (mv S rfl fun f S => ov S rfl (Zi S rfl rfl (Zfa G)) fun f S => mw S rfl fun f S => Zl ?_); obtain rfl := Zf H; refine Zc (E _ _ ⟨_, _, _, rfl, (leR _), (S.fr' rfl), (ZXd D F), (Z4 G).2⟩)
    have H := Zx H h; refine ZE S rfl h (wp_skip ?_); obtain rfl := Zf H; refine Zc (E _ _ ⟨_, _, _, rfl, (leR _), (S.fr' rfl), D, X⟩)
  rintro f w ⟨n, o, p, hq, an, S, ao, ap⟩; subst hq; have H := ab; refine Zc (Y _ _ (Zh fun _ ad => ?_)); obtain ⟨aq, ae, H⟩ := Zb H; obtain ⟨af, I, H⟩ := Zb H; refine Zm (mv S rfl fun f S => mv S rfl fun f S => ov S rfl (ZOa S rfl (ZAm _)) fun f S => ov S rfl (Z7o S (l := ([0, 1, 2, 2, 3, 3, 3, 3, 4, 4, 4, 4, 4, 4, 4, 4, 5, 5, 5, 5, 5, 5, 5, 5, 5, 5, 5, 5, 5, 5, 5, 5, 6, 6, 6, 6, 6, 6, 6, 6, 6, 6, 6, 6, 6, 6, 6, 6, 6, 6, 6, 6, 6, 6, 6, 6, 6, 6, 6, 6, 6, 6, 6, 6, 7, 7, 7, 7, 7, 7, 7, 7, 7, 7, 7, 7, 7, 7, 7, 7, 7, 7, 7, 7, 7, 7, 7, 7, 7, 7, 7, 7, 7, 7, 7, 7, 7, 7, 7, 7, 7, 7, 7, 7, 7, 7, 7, 7, 7, 7, 7, 7, 7, 7, 7, 7, 7, 7, 7, 7, 7, 7, 7, 7, 7, 7, 7, 7, 8, 8, 8, 8, 8, 8, 8, 8, 8, 8, 8, 8, 8, 8, 8, 8, 8, 8, 8, 8, 8, 8, 8, 8, 8, 8, 8, 8, 8, 8, 8, 8, 8, 8, 8, 8, 8, 8, 8, 8, 8, 8, 8, 8, 8, 8, 8, 8, 8, 8, 8, 8, 8, 8, 8, 8, 8, 8, 8, 8, 8, 8, 8, 8, 8, 8, 8, 8, 8, 8, 8, 8, 8, 8, 8, 8, 8, 8, 8, 8, 8, 8, 8, 8, 8, 8, 8, 8, 8, 8, 8, 8, 8, 8, 8, 8, 8, 8, 8, 8, 8, 8, 8, 8, 8, 8, 8, 8, 8, 8, 8, 8, 8, 8, 8, 8, 8, 8, 8, 8, 8, 8, 8, 8, 8, 8, 8, 8] : List UInt8)) (by kernel_rfl) rfl Tryz.underlying9 ae) fun f S => ov S rfl (ZOa S rfl (k_cv5_3 _)) fun f S => ov S rfl (Zi S rfl rfl (Zfa I)) fun f S => mw S rfl fun f S => Zl (Zc (ad _ _ (wp_ret ?_)))); obtain rfl := Zf H; refine ZA S (ZM rfl (ZB S rfl)) ⟨[.int .i64 (af)], rfl, (Zr (Z4 I).2)⟩
theorem len64_c {b : World} {a : Zd} (hv : VIn a b) {c : List Value} {x : Int} (e : Rep.rel (Za .u64) a c x) {z : Int} (hm : Zug x = some z) :
    Ret Tryz.prog 196 #[(Za .u64).val c] b a (fun y v' => ∃ d, y = (Za .i64).val d ∧ (Za .i64).rel v' d z) :=
  len64_w hv e (Zrq hm)
theorem lz64_w {b : World} {a : Zd} (hv : VIn a b) {c : List Value} {x : Int} (g : Rep.rel (Za .u64) a c x) {z : Int} (H : ZVh x = some z) : Ret Tryz.prog 176 #[(Za .u64).val c] b a (fun y v' => ∃ d, y = (Za .i64).val d ∧ (Za .i64).rel v' d z) := by
  obtain ⟨rfl, h⟩ := g; refine ZT (K := 6) (args := [.int .u64 (x)]) hv Tryz.func176 rfl rfl zl fun f S => ?_; unfold ZVh at H; refine sr (mw S rfl fun f S => oe (Zh fun _ i => ?_)); obtain ⟨m, j, H⟩ := Zb H; obtain ⟨k, e, H⟩ := Zb H; refine Zm (mv S rfl fun f S => opc S rfl (Zo S [.int .u64 (x)] k_en196 rfl rfl) (len64_c S.vin (show Rep.rel (Za .u64) _ [.int .u64 (x)] x from (Zr h)) j) ?_); rintro _ n f w o ⟨p, rfl, l⟩ S; obtain ⟨rfl, q⟩ := l; refine ov S rfl (Zi S rfl rfl (ZMa e)) fun f S => mw S rfl fun f S => Zl (Zc (i _ _ (wp_ret ?_))); obtain rfl := Zf H; refine ZA S (ZM rfl (ZB S rfl)) ⟨[.int .i64 (k)], rfl, (Zr (Z4 e).2)⟩
theorem Zcm {b : World} {a : Zd} (hv : VIn a b) {c : List Value} {x : Int} (e : Rep.rel (Za .u64) a c x) {z : Int} (hm : Z9d x = some z) :
    Ret Tryz.prog 176 #[(Za .u64).val c] b a (fun y v' => ∃ d, y = (Za .i64).val d ∧ (Za .i64).rel v' d z) :=
  lz64_w hv e (Zlq hm)
theorem div64_w {e : World} {c : Zd} (hv : VIn c e) {X : List Value} {hi : Int} (p0 : Rep.rel (Za .u64) c X hi) {Y : List Value} {lo : Int} (p1 : Rep.rel (Za .u64) c Y lo) {Z : List Value} {y : Int} (p2 : Rep.rel (Za .u64) c Z y) {z : Int × Int} (H : ZIh hi lo y = some z) : Ret Tryz.prog 190 #[(Za .u64).val X, (Za .u64).val Y, (Za .u64).val Z] e c (fun y v' => ∃ r0 M, y = .tuple #[(Za .u64).val r0, (Za .u64).val M] ∧ (Za .u64).rel v' r0 z.1 ∧ (Za .u64).rel v' M z.2) := by
  obtain ⟨rfl, M⟩ := p0; obtain ⟨rfl, r2⟩ := p1; obtain ⟨rfl, r3⟩ := p2; refine ZT (K := 135) (args := [.int .u64 (hi), .int .u64 (lo), .int .u64 (y)]) hv Tryz.func190 rfl rfl zl fun f S => ?_; unfold ZIh at H; refine sr (mw S rfl fun f S => mw S rfl fun f S => oe (Zh fun _ an => sr (mv S rfl fun f S => ov S rfl (Zi S rfl rfl Z1) fun f S => oe ?_))); rcases Zw (y == ((0 : Int))) with q | q
  · have H := Zy H q; refine ZD S rfl q ?_
    cases H
  have H := Zx H q; refine ZE S rfl q (wp_skip (Zc (an _ _ (Zh fun _ ao => sr (mv S rfl fun f S => mv S rfl fun f S => ov S rfl (Zi S rfl rfl Zed) fun f S => oe ?_))))); rcases Zw (decide (y ≤ hi)) with r | r
  · have H := Zy H r; refine ZD S rfl r ?_
    cases H
  have H := Zx H r; refine ZE S rfl r (wp_skip (Zc (ao _ _ (Zh fun _ ap => sr (mv S rfl fun f S => ov S rfl (Zi S rfl rfl Z1) fun f S => oe ?_))))); rcases Zw (hi == ((0 : Int))) with s | s
  · have H := Zy H s; refine ZD S rfl s (Zh fun _ aq => ?_); obtain ⟨ar, aa, H⟩ := Zb H; obtain ⟨au, N, H⟩ := Zb H; refine Z8 (fl := #[true, true, true, true, true, true, false, false]) Z9 (by kernel_rfl) S ?_; intro ops O F w S; refine rfa O F 0 rfl rfl S (Zp S rfl) fun f S => rfa O F 1 rfl rfl S (Zp S rfl) fun f S => rfa O F 2 rfl rfl S (Zi S rfl rfl (Z4b aa)) fun f S => rfa O F 3 rfl rfl S (Zp S rfl) fun f S => rfa O F 4 rfl rfl S (Zp S rfl) fun f S => rfa O F 5 rfl rfl S (Zi S rfl rfl (ZOc N)) fun f S => go1 O F 6 (nva [0, 1, 2] [3, 4, 5] O rfl rfl S (Zga S rfl) fun f S => ⟨(py S rfl rfl (Zp S rfl) (py S rfl rfl (Zp S rfl) (py S rfl rfl (Zi S rfl rfl (ZOc N)) Zq))), go1 O F 7 (nva [0, 1, 2, 3, 4, 5, 6] [] O rfl rfl S (Zga S rfl) fun f S => ⟨Zq, Z0 O F (Zc (aq _ _ ?_))⟩)⟩); refine wp_ret (ZK ?_); obtain rfl := Zf H; refine ZA S (ZIa rfl (ZB S rfl) (ZB S rfl)) ⟨[.int .u64 (ar)], [.int .u64 (au)], rfl, (Zr (Z7e aa)), (Zr (Zgk r2 N))⟩
  have H := Zx H s; refine ZE S rfl s (wp_skip (Zc (ap _ _ (Zh fun _ av => ?_)))); obtain ⟨h, aw, H⟩ := Zb H; refine Zm (mv S rfl fun f S => opc S rfl (Zo S [.int .u64 (y)] Z2m rfl rfl) (Zcm S.vin (show Rep.rel (Za .u64) _ [.int .u64 (y)] y from (Zr r3)) aw) ?_); rintro _ ab f w bd ⟨be, rfl, ax⟩ S; obtain ⟨rfl, bf⟩ := ax; refine ov S rfl (ZOa S rfl (ZSj _)) fun f S => mw S rfl fun f S => Zl (Zc (av _ _ (Zh fun _ ay => ?_))); obtain ⟨a, az, H⟩ := Zb H; refine Zm (mv S rfl fun f S => mv S rfl fun f S => ov S rfl (Zi S rfl rfl (Z8d az)) fun f S => mw S rfl fun f S => Zl (Zc (ay _ _ (Zh fun _ aA => ?_)))); obtain ⟨g, aB, H⟩ := Zb H; refine Zm (mv S rfl fun f S => ov S rfl (Zi S rfl rfl (ZCb aB)) fun f S => mw S rfl fun f S => Zl (Zc (aA _ _ (sr (mv S rfl fun f S => ov S rfl (Zi S rfl rfl ZYf) fun f S => mw S rfl fun f S => oe (Zh fun _ aC => ?_)))))); obtain ⟨i, aD, H⟩ := Zb H; obtain ⟨j, aE, H⟩ := Zb H; refine Zm (mv S rfl fun f S => mv S rfl fun f S => ov S rfl (Zi S rfl rfl (Z8d aD)) fun f S => mv S rfl fun f S => mv S rfl fun f S => ov S rfl (Zi S rfl rfl ZUd) fun f S => ov S rfl (Zi S rfl rfl (ZCb aE)) fun f S => ov S rfl (Zi S rfl rfl Z8e) fun f S => mw S rfl fun f S => Zl ?_); have S := S.fr' (σ' := [(1, .int .u64 (lo)), (2, .int .u64 (a)), (8, .int .u64 (IntKind.u64.wrap h)), (9, .int .u64 (g)), (10, .int .u64 (ZVa .u64 a ((4294967295 : Int)))), (11, .int .u64 (orI .u64 i j))]) rfl
  refine Zc (aC _ _ (Zh fun _ aF => ?_)); obtain ⟨k, aG, H⟩ := Zb H; refine Zm (mv S rfl fun f S => mv S rfl fun f S => ov S rfl (Zi S rfl rfl (Z8d aG)) fun f S => mw S rfl fun f S => Zl (Zc (aF _ _ (Zh fun _ aH => ?_)))); obtain ⟨l, aI, H⟩ := Zb H; refine Zm (mv S rfl fun f S => ov S rfl (Zi S rfl rfl (ZCb aI)) fun f S => mw S rfl fun f S => Zl (Zc (aH _ _ (sr (mv S rfl fun f S => ov S rfl (Zi S rfl rfl ZYf) fun f S => mw S rfl fun f S => oe (Zh fun _ aJ => ?_)))))); obtain ⟨bg, ac, H⟩ := Zb H; refine Zm (mv S rfl fun f S => mv S rfl fun f S => ov S rfl (Zi S rfl rfl (Z4b ac)) fun f S => mw S rfl fun f S => Zl (Zc (aJ _ _ (sr (mv S rfl fun f S => mv S rfl fun f S => mv S rfl fun f S => ov S rfl (Zi S rfl rfl Zmc) fun f S => ov S rfl (Zi S rfl rfl ZUd) fun f S => mw S rfl fun f S => ?_))))); refine oe (Zh fun _ aK => ?_); obtain ⟨aL, aM, aN⟩ := Zb H; refine ZP (fun f w => ∃ (d : Int) (u : Zd), d = aL ∧ Zd.le ab u ∧ St 135 e c [(2, .int .u64 (a)), (8, .int .u64 (IntKind.u64.wrap h)), (9, .int .u64 (g)), (10, .int .u64 (ZVa .u64 a ((4294967295 : Int)))), (11, .int .u64 (orI .u64 i j)), (13, .int .u64 (l)), (14, .int .u64 (ZVa .u64 k ((4294967295 : Int)))), (15, .int .u64 (d))] [] u f w ∧ inR .u64 d) (fun _ ad => ?_) ?_
  · have H := aM; refine wp_block ?_; obtain ⟨bh, aO, ae⟩ := Zb H; refine Zra aO (fun aP f w => ∃ (m : Int) (n : Int) (G : Zd), (m, n) = aP ∧ Zd.le ab G ∧ St 135 e c [(2, .int .u64 (a)), (8, .int .u64 (IntKind.u64.wrap h)), (9, .int .u64 (g)), (10, .int .u64 (ZVa .u64 a ((4294967295 : Int)))), (11, .int .u64 (orI .u64 i j)), (13, .int .u64 (l)), (14, .int .u64 (ZVa .u64 k ((4294967295 : Int)))), (15, .int .u64 (m)), (16, .int .u64 (n))] [] G f w ∧ inR .u64 m ∧ inR .u64 n) ⟨_, _, _, rfl, (leR _), (S.fr' rfl), (Z7e ac), (ZAa _ _)⟩ ?_; rintro _ f w st ⟨m, n, G, hq, P, S, aQ, bi⟩ H bj aR af; subst hq; refine Zh fun _ aS => Zh fun _ aT => ?_; obtain ⟨aU, aV, aW⟩ := Zb H; refine ZP (fun f w => ∃ (I : Bool) (Q : Zd), I = aU ∧ Zd.le G Q ∧ St 135 e c [(2, .int .u64 (a)), (8, .int .u64 (IntKind.u64.wrap h)), (9, .int .u64 (g)), (10, .int .u64 (ZVa .u64 a ((4294967295 : Int)))), (11, .int .u64 (orI .u64 i j)), (13, .int .u64 (l)), (14, .int .u64 (ZVa .u64 k ((4294967295 : Int)))), (15, .int .u64 (m)), (16, .int .u64 (n)), (78, .bool (I))] [] Q f w) (fun _ ag => ?_) ?_
    · have H := aV; rcases Zw (decide ((4294967296 : Int) ≤ m)) with v | v
      · have H := Zy H v; refine Zm (mv S rfl fun f S => ov S rfl (Zi S rfl rfl Zgb) fun f S => ?_); have S := S.bool (t := 68) rfl v; refine mv S rfl fun f S => opn S rfl rfl rfl rfl fun f S => opn S rfl rfl rfl rfl fun f S => opn S rfl rfl rfl rfl fun f S => opn S rfl rfl rfl rfl fun f S => opn S rfl rfl rfl rfl fun f S => opn S rfl rfl rfl rfl fun f S => opn S rfl rfl rfl rfl fun f S => opn S rfl rfl rfl rfl fun f S => ov S rfl (ZI S (b := true) rfl rfl) fun f S => Zl ?_; obtain rfl := Zf H; refine Zc (ag _ _ ⟨_, _, rfl, (leR _), (S.fr' rfl)⟩)
      have H := Zx H v; refine Zm (mv S rfl fun f S => ov S rfl (Zi S rfl rfl Zgb) fun f S => ?_); have S := S.bool (t := 68) rfl v; refine mv S rfl fun f S => opy S rfl rfl rfl rfl (Zp S rfl) fun f S => opy S rfl rfl rfl rfl (Zp S rfl) fun f S => opy S rfl rfl rfl rfl (Zi S rfl rfl Zmc) fun f S => opy S rfl rfl rfl rfl (Zp S rfl) fun f S => opy S rfl rfl rfl rfl (Zi S rfl rfl Zmc) fun f S => opy S rfl rfl rfl rfl (Zp S rfl) fun f S => opy S rfl rfl rfl rfl (Zi S rfl rfl ZRb) fun f S => opy S rfl rfl rfl rfl (Zi S rfl rfl Zya) fun f S => ov S rfl (ZI S (b := false) rfl rfl) fun f S => Zl ?_; obtain rfl := Zf H; refine Zc (ag _ _ ⟨_, _, rfl, (leR _), (S.fr' rfl)⟩)
    rintro f w ⟨I, Q, hq, R, S⟩; subst hq; have H := aW; refine Zc (aT _ _ ?_); rcases Zw (I) with x | x
    · have H := Zy H x; refine ZD S rfl x (wp_skip (Zc (aS _ _ (wp_block (sr (mv S rfl fun f S => ov S rfl (Zi S rfl rfl ZUd) fun f S => mw S rfl fun f S => oe (sr (mv S rfl fun f S => mv S rfl fun f S => ov S rfl (Zi S rfl rfl ZRb) fun f S => mw S rfl fun f S => ?_)))))))); refine oe (sr (mv S rfl fun f S => ov S rfl (Zi S rfl rfl Zgb) fun f S => oe ?_)); rcases Zw (decide ((4294967296 : Int) ≤ IntKind.u64.wrap (n + g))) with A | A
      · have H := Zy H A; refine ZD S rfl A (wp_exit (Zcd rfl ?_)); obtain rfl := Zf H; have hq := af _ rfl; subst hq; have H := ae; refine ZL (Zja ?_); obtain rfl := Zf H; refine Zc (ad _ _ ⟨_, _, rfl, (leT (leT (leR _) P) R), (S.fr' rfl), (ZAa _ _)⟩)
      have H := Zx H A; refine ZE S rfl A (wp_skip (Zpa ?_)); obtain rfl := Zf H; refine aR _ rfl _ _ ⟨_, _, _, rfl, (leT P R), (S.fr' rfl), (ZAa _ _), (ZAa _ _)⟩
    have H := Zx H x; refine ZE S rfl x (wp_exit (ZL ?_)); obtain rfl := Zf H; have hq := af _ rfl; subst hq; have H := ae; refine ZL (Zja ?_); obtain rfl := Zf H; refine Zc (ad _ _ ⟨_, _, rfl, (leT (leT (leR _) P) R), (S.fr' rfl), aQ⟩)
  rintro f w ⟨d, u, hq, bk, S, bm⟩; subst hq; have H := aN; refine Zc (aK _ _ (sr (mv S rfl fun f S => ov S rfl (Zi S rfl rfl Zmc) fun f S => mv S rfl fun f S => ov S rfl (Zi S rfl rfl ZRb) fun f S => mv S rfl fun f S => mv S rfl fun f S => ov S rfl (Zi S rfl rfl Zmc) fun f S => ov S rfl (Zi S rfl rfl ZUd) fun f S => mw S rfl fun f S => oe (Zh fun _ aX => ?_)))); obtain ⟨bn, ah, H⟩ := Zb H; refine Zm (mv S rfl fun f S => mv S rfl fun f S => ov S rfl (Zi S rfl rfl (Z4b ah)) fun f S => mw S rfl fun f S => Zl (Zc (aX _ _ (sr (mv S rfl fun f S => mv S rfl fun f S => mv S rfl fun f S => ov S rfl (Zi S rfl rfl Zmc) fun f S => ov S rfl (Zi S rfl rfl ZUd) fun f S => mw S rfl fun f S => ?_))))); refine oe (Zh fun _ aY => ?_); obtain ⟨aZ, a0, a1⟩ := Zb H; refine ZP (fun f w => ∃ (B : Int) (T : Zd), B = aZ ∧ Zd.le u T ∧ St 135 e c [(2, .int .u64 (a)), (8, .int .u64 (IntKind.u64.wrap h)), (14, .int .u64 (ZVa .u64 k ((4294967295 : Int)))), (15, .int .u64 (d)), (17, .int .u64 (IntKind.u64.wrap ((IntKind.u64.wrap ((IntKind.u64.wrap ((orI .u64 i j) * ((4294967296 : Int)))) + l)) - (IntKind.u64.wrap (d * a))))), (18, .int .u64 (B))] [] T f w ∧ inR .u64 B) (fun _ ai => ?_) ?_
  · have H := a0; refine wp_block ?_; obtain ⟨bo, a2, aj⟩ := Zb H; refine Zra a2 (fun a3 f w => ∃ (o : Int) (p : Int) (J : Zd), (o, p) = a3 ∧ Zd.le u J ∧ St 135 e c [(2, .int .u64 (a)), (8, .int .u64 (IntKind.u64.wrap h)), (9, .int .u64 (g)), (10, .int .u64 (ZVa .u64 a ((4294967295 : Int)))), (14, .int .u64 (ZVa .u64 k ((4294967295 : Int)))), (15, .int .u64 (d)), (16, .int .u64 (o)), (17, .int .u64 (IntKind.u64.wrap ((IntKind.u64.wrap ((IntKind.u64.wrap ((orI .u64 i j) * ((4294967296 : Int)))) + l)) - (IntKind.u64.wrap (d * a))))), (18, .int .u64 (p))] [] J f w ∧ inR .u64 o ∧ inR .u64 p) ⟨_, _, _, rfl, (leR _), (S.fr' rfl), (ZAa _ _), (Z7e ah)⟩ ?_; rintro _ f w st ⟨o, p, J, hq, U, S, bp, a4⟩ H bq a5 ak; subst hq; refine Zh fun _ a6 => Zh fun _ a7 => ?_; obtain ⟨a8, a9, ba⟩ := Zb H; refine ZP (fun f w => ∃ (L : Bool) (V : Zd), L = a8 ∧ Zd.le J V ∧ St 135 e c [(2, .int .u64 (a)), (8, .int .u64 (IntKind.u64.wrap h)), (9, .int .u64 (g)), (10, .int .u64 (ZVa .u64 a ((4294967295 : Int)))), (14, .int .u64 (ZVa .u64 k ((4294967295 : Int)))), (15, .int .u64 (d)), (16, .int .u64 (o)), (17, .int .u64 (IntKind.u64.wrap ((IntKind.u64.wrap ((IntKind.u64.wrap ((orI .u64 i j) * ((4294967296 : Int)))) + l)) - (IntKind.u64.wrap (d * a))))), (18, .int .u64 (p)), (113, .bool (L))] [] V f w) (fun _ al => ?_) ?_
    · have H := a9; rcases Zw (decide ((4294967296 : Int) ≤ p)) with C | C
      · have H := Zy H C; refine Zm (mv S rfl fun f S => ov S rfl (Zi S rfl rfl Zgb) fun f S => ?_); have S := S.bool (t := 103) rfl C; refine mv S rfl fun f S => opn S rfl rfl rfl rfl fun f S => opn S rfl rfl rfl rfl fun f S => opn S rfl rfl rfl rfl fun f S => opn S rfl rfl rfl rfl fun f S => opn S rfl rfl rfl rfl fun f S => opn S rfl rfl rfl rfl fun f S => opn S rfl rfl rfl rfl fun f S => opn S rfl rfl rfl rfl fun f S => ov S rfl (ZI S (b := true) rfl rfl) fun f S => Zl ?_; obtain rfl := Zf H; refine Zc (al _ _ ⟨_, _, rfl, (leR _), (S.fr' rfl)⟩)
      have H := Zx H C; refine Zm (mv S rfl fun f S => ov S rfl (Zi S rfl rfl Zgb) fun f S => ?_); have S := S.bool (t := 103) rfl C; refine mv S rfl fun f S => opy S rfl rfl rfl rfl (Zp S rfl) fun f S => opy S rfl rfl rfl rfl (Zp S rfl) fun f S => opy S rfl rfl rfl rfl (Zi S rfl rfl Zmc) fun f S => opy S rfl rfl rfl rfl (Zp S rfl) fun f S => opy S rfl rfl rfl rfl (Zi S rfl rfl Zmc) fun f S => opy S rfl rfl rfl rfl (Zp S rfl) fun f S => opy S rfl rfl rfl rfl (Zi S rfl rfl ZRb) fun f S => opy S rfl rfl rfl rfl (Zi S rfl rfl Zya) fun f S => ov S rfl (ZI S (b := false) rfl rfl) fun f S => Zl ?_; obtain rfl := Zf H; refine Zc (al _ _ ⟨_, _, rfl, (leR _), (S.fr' rfl)⟩)
    rintro f w ⟨L, V, hq, W, S⟩; subst hq; have H := ba; refine Zc (a7 _ _ ?_); rcases Zw (L) with D | D
    · have H := Zy H D; refine ZD S rfl D (wp_skip (Zc (a6 _ _ (wp_block (sr (mv S rfl fun f S => ov S rfl (Zi S rfl rfl ZUd) fun f S => mw S rfl fun f S => oe (sr (mv S rfl fun f S => mv S rfl fun f S => ov S rfl (Zi S rfl rfl ZRb) fun f S => mw S rfl fun f S => ?_)))))))); refine oe (sr (mv S rfl fun f S => ov S rfl (Zi S rfl rfl Zgb) fun f S => oe ?_)); rcases Zw (decide ((4294967296 : Int) ≤ IntKind.u64.wrap (o + g))) with E | E
      · have H := Zy H E; refine ZD S rfl E (wp_exit (Zcd rfl ?_)); obtain rfl := Zf H; have hq := ak _ rfl; subst hq; have H := aj; refine ZL (Zja ?_); obtain rfl := Zf H; refine Zc (ai _ _ ⟨_, _, rfl, (leT (leT (leR _) U) W), (S.fr' rfl), (ZAa _ _)⟩)
      have H := Zx H E; refine ZE S rfl E (wp_skip (Zpa ?_)); obtain rfl := Zf H; refine a5 _ rfl _ _ ⟨_, _, _, rfl, (leT U W), (S.fr' rfl), (ZAa _ _), (ZAa _ _)⟩
    have H := Zx H D; refine ZE S rfl D (wp_exit (ZL ?_)); obtain rfl := Zf H; have hq := ak _ rfl; subst hq; have H := aj; refine ZL (Zja ?_); obtain rfl := Zf H; refine Zc (ai _ _ ⟨_, _, rfl, (leT (leT (leR _) U) W), (S.fr' rfl), a4⟩)
  rintro f w ⟨B, T, hq, br, S, bs⟩; subst hq; have H := a1; refine Zc (aY _ _ (Zh fun _ bb => ?_)); obtain ⟨bc, am, H⟩ := Zb H; refine Zm (mv S rfl fun f S => ov S rfl (Zi S rfl rfl Zmc) fun f S => mv S rfl fun f S => ov S rfl (Zi S rfl rfl ZRb) fun f S => mv S rfl fun f S => ov S rfl (Zi S rfl rfl Zmc) fun f S => mv S rfl fun f S => ov S rfl (Zi S rfl rfl ZRb) fun f S => mv S rfl fun f S => mv S rfl fun f S => ov S rfl (Zi S rfl rfl Zmc) fun f S => ov S rfl (Zi S rfl rfl ZUd) fun f S => mv S rfl fun f S => ?_); refine ov S rfl (Zi S rfl rfl (ZCb am)) fun f S => mw S rfl fun f S => mw S rfl fun f S => Zl (Zc (bb _ _ (wp_ret ?_))); obtain rfl := Zf H; refine ZA S (ZIa rfl (ZB S rfl) (ZB S rfl)) ⟨[.int .u64 (IntKind.u64.wrap ((IntKind.u64.wrap (d * ((4294967296 : Int)))) + B))], [.int .u64 (bc)], rfl, (Zr (ZAa _ _)), (Zr (ZXd (ZAa _ _) am))⟩
theorem Zrm {b : World} {a : Zd} (hv : VIn a b) {c : List Value} {hi : Int} (h : Rep.rel (Za .u64) a c hi) {d : List Value} {lo : Int} (i : Rep.rel (Za .u64) a d lo) {e : List Value} {y : Int} (j : Rep.rel (Za .u64) a e y) {z : Int × Int} (hm : Z2d hi lo y = some z) :
    Ret Tryz.prog 190 #[(Za .u64).val c, (Za .u64).val d, (Za .u64).val e] b a (fun y v' => ∃ f g, y = Value.tuple #[(Za .u64).val f, (Za .u64).val g] ∧ (Za .u64).rel v' f z.1 ∧ (Za .u64).rel v' g z.2) :=
  div64_w hv h i j (ZYq hm)
theorem Zsp {E : World} {d : Zd} (hv : VIn d E) {R : List Value} {a : Nat} (g : Rep.rel ZF d R a) {T : List Value} {n : Int} (p1 : Rep.rel (Za .u64) d T n) {z : Nat × Int} (H : Zzg a n = some z) : Ret Tryz.prog 167 #[ZF.val R, (Za .u64).val T] E d (fun y v' => ∃ U V, y = .tuple #[ZF.val U, (Za .u64).val V] ∧ ZF.rel v' U z.1 ∧ (Za .u64).rel v' V z.2) := by
  obtain ⟨W, X, Y, rfl⟩ := Zaa g; obtain ⟨rfl, r4⟩ := p1; refine ZT (K := 35) (args := [.slice W X Y, .int .u64 (n)]) hv Tryz.func167 rfl rfl zl fun f S => ?_; unfold Zzg at H; refine sr (mw S rfl fun f S => mw S rfl fun f S => oe (Zh fun _ ah => ?_)); obtain ⟨y9, F, H⟩ := Zb H; refine Zm (mv S rfl fun f S => ov S rfl (ZJ S (Zv g) rfl rfl ZU) fun f S => ?_); obtain ⟨Z, aa⟩ : ∃ c : List Value, c = (List.replicate ((((Zj 18446744073709551616 a)).length : Int)).toNat [.int .u64 ((0 : Int))]).flatten := ⟨_, rfl⟩; obtain ⟨ai, w, aj, S⟩ := Zkc Z4c S (l := (((Zj 18446744073709551616 a)).length : Int)) (c := (((Zj 18446744073709551616 a)).length : Int)) (Zna F).1 (Zna F).2.1 (Zna F).2.2.1 (Zna F).2.2.2 aa; have ak : Rep.rels (Za .u64) d Z (List.replicate ((((Zj 18446744073709551616 a)).length : Int)).toNat ((0 : Int))) := by rw [aa]; exact Z0b (show Rep.rel (Za .u64) _ [.int .u64 ((0 : Int))] _ from (Zr (by decide))) _
  refine Zva wn rfl zl (aj rfl rfl) S fun f S => mw S rfl fun f S => Zl (Zc (ah _ _ (sr (mw S rfl fun f S => oe (Zh fun _ al => Zh fun _ am => ?_))))); obtain ⟨aV, ab, H⟩ := Zb H; refine Zm (mv S rfl fun f S => ov S rfl (ZJ S (Zv g) rfl rfl ZU) fun f S => ov S rfl (Zi S rfl rfl (ZMa ab)) fun f S => mw S rfl fun f S => Zl (Zc (am _ _ ?_))); obtain ⟨an, ao, ap⟩ := Zb H; refine ZP (fun f w => ∃ (o : (List Int)) (s : Int) (t : Option Nat) (p : Nat) (u : Nat) (L : List Value) (G : Zd), (o, s) = an ∧ Zd.le d G ∧ St 35 E d [(6, .slice (mkA t) (p) u), (7, .int .u64 (s))] [Loc.own t 211 1 (p) u L] G f w ∧ Rep.rels (Za .u64) G L o ∧ p = o.length ∧ inR .u64 s) (fun _ aq => ?_) ?_
  · have H := ao; refine wp_block ?_; obtain ⟨aW, ar, au⟩ := Zb H; refine Zra ar (fun av f w => ∃ (q : (List Int)) (h : Int) (b : Int) (I : Option Nat) (k : Nat) (v : Nat) (e : List Value) (J : Zd), (q, h, b) = av ∧ Zd.le d J ∧ St 35 E d [(0, .slice W X Y), (1, .int .u64 (n)), (6, .slice (mkA I) (k) v), (7, .int .u64 (h)), (8, .int .i64 (b))] [Loc.own I 211 1 (k) v e] J f w ∧ Rep.rels (Za .u64) J e q ∧ k = q.length ∧ inR .u64 h ∧ inR .i64 b) ⟨_, _, _, some ai, ((((Zj 18446744073709551616 a)).length : Int)).toNat, ((((Zj 18446744073709551616 a)).length : Int)).toNat, Z, _, rfl, (leR _), (S.fr' rfl), ak, (ZFb (x := (0 : Int))), (by decide), (Z4 ab).2⟩ ?_; rintro _ f w st ⟨q, h, b, I, k, v, e, J, hq, M, S, B, C, ac, aX⟩ H aY aw ax; subst hq; refine Zh fun _ ay => sr (mv S rfl fun f S => ov S rfl (Zi S rfl rfl Zgb) fun f S => oe ?_); rcases Zw (decide ((0 : Int) ≤ b)) with D | D
    · have H := Zy H D; refine ZD S rfl D (wp_skip (Zc (ay _ _ (Zh fun _ az => wp_block ?_)))); obtain ⟨N, O, H⟩ := Zb H; obtain ⟨m, aA, H⟩ := Zb H; obtain ⟨aZ, r, H⟩ := Zb H; refine Zm (mv S rfl fun f S => mv S rfl fun f S => mv S rfl fun f S => mv S rfl fun f S => mv S rfl fun f S => ?_); have g := Zn M g; obtain ⟨_, a0, a1, a2, rfl, P, aB⟩ := Zoa g (Zk O).2.1; obtain ⟨rfl, aC⟩ := aB; refine ov S rfl (ZR S rfl rfl ZU (Zk O).1 (ltI (Zv g) (Zk O).2.2.1)) fun f S => ov S rfl (Zca S rfl ZBa (S.view P)) fun f S => mv S rfl fun f S => opc S rfl (Zo S [.int .u64 (h), .int .u64 (N), .int .u64 (n)] Zml rfl rfl) (Zrm S.vin (show Rep.rel (Za .u64) _ [.int .u64 (h)] h from (Zr ac)) (show Rep.rel (Za .u64) _ [.int .u64 (N)] N from (Zr aC)) (show Rep.rel (Za .u64) _ [.int .u64 (n)] n from (Zr r4)) aA) ?_; rintro _ ad f w Q ⟨a3, a4, rfl, aD, aE⟩ S; have B := ZV Q B; have P := Atm Q P; obtain ⟨rfl, aF⟩ := aD; obtain ⟨rfl, aG⟩ := aE; refine mv S rfl fun f S => ov S rfl (ZO S rfl rfl) fun f S => ov S rfl (ZO S rfl rfl) fun f S => ?_; obtain ⟨aH, rfl⟩ := Z5b S (j := 0) rfl (Z8b C (Zk r).2.2.2); have ae := ZKa B (Zk r).2.1; obtain ⟨a5, aI⟩ : ∃ c, (List.take (Za .u64).n (List.drop ((b).toNat * (Za .u64).n) e)) = c := ⟨_, rfl⟩
      rw [aI] at ae; obtain ⟨rfl, a6⟩ := ae; refine ov S rfl (ZR S rfl rfl ZU (Zk r).1 (ltI C (Zk r).2.2.1)) fun f S => ?_; obtain ⟨w, aJ, S⟩ := Z1b S ZBa (off := 0 + (b).toNat * 1) (z := .int .u64 (m.1)) (cs := [.int .u64 (m.1)]) (ZKb rfl) rfl (i := 0) rfl (Z6b S (j := 0) rfl (ltN C (Zk r).2.2.2)) (by first | rfl | simp [ZYa]); have aK : Rep.rels (Za .u64) ad (List.take (0 + (b).toNat * 1) e ++ [Value.int IntKind.u64 (m.1)] ++ List.drop (0 + (b).toNat * 1 + 1) e) (q.set (b).toNat m.1) := ZOb B (Zk r).2.2.2 (show Rep.rel (Za .u64) ad [.int .u64 (m.1)] _ from (Zr aF)) rfl rfl; have aL : k = (q.set (b).toNat m.1).length := ZNb C; refine ZY wn rfl (aJ rfl rfl) (mw S rfl fun f S => Zl (Zpa (Zc (az _ _ ?_)))); obtain ⟨a7, af, H⟩ := Zb H; refine Zm (mv S rfl fun f S => ov S rfl (Zi S rfl rfl (ZMa af)) fun f S => mw S rfl fun f S => Zl ?_); obtain rfl := Zf H; refine aw _ rfl _ _ ⟨_, _, _, some aH, k, v, (List.take (0 + (b).toNat * 1) e ++ [Value.int IntKind.u64 (m.1)] ++ List.drop (0 + (b).toNat * 1 + 1) e), _, rfl, (leT M Q), (S.fr' rfl), aK, aL, aG, (Z4 af).2⟩
    have H := Zx H D; refine ZE S rfl D (wp_exit (ZL ?_)); obtain rfl := Zf H; have hq := ax _ rfl; subst hq; have H := au; refine ZL (Zja ?_); obtain rfl := Zf H; refine Zc (aq _ _ ⟨_, _, I, k, v, e, _, rfl, (leT (leR _) M), (S.fr' rfl), B, C, ac⟩)
  rintro f w ⟨o, s, t, p, u, L, G, hq, a8, S, aM, aN, aO⟩; subst hq; have H := ap; refine Zc (al _ _ (Zh fun _ aP => ?_)); obtain ⟨a9, aQ, H⟩ := Zb H; refine Zm (mv S rfl fun f S => ?_); obtain ⟨ba, bb, S, aR⟩ := S.pubSlice (i := 0) (A := (Za .u64)) (l := o) (ℓ' := []) rfl rfl aN aM rfl; refine opc S rfl (Zo S [.slice (mkA t) (p) u] ZHd rfl rfl) (ZQd S.vin (show Rep.rel (Zu (Za .u64)) _ [.slice (mkA t) (p) u] o from aR) aQ) ?_; rintro _ bc f w bd ⟨be, rfl, ag⟩ S; obtain ⟨aS, aT, aU, rfl⟩ := Zaa ag; refine mv S rfl fun f S => mw S rfl fun f S => mw S rfl fun f S => Zl (Zc (aP _ _ (wp_ret ?_))); obtain rfl := Zf H; refine ZA S (ZIa rfl (ZB S rfl) (ZB S rfl)) ⟨[.slice aS aT aU], [.int .u64 (s)], rfl, ag, (Zr aO)⟩
theorem Zjn {c : World} {b : Zd} (hv : VIn b c) {d : List Value} {a : Nat} (i : Rep.rel ZF b d a) {e : List Value} {n : Int} (f : Rep.rel (Za .u64) b e n) {z : Nat × Int} (hm : Zre a n = some z) :
    Ret Tryz.prog 167 #[ZF.val d, (Za .u64).val e] c b (fun y v' => ∃ g h, y = Value.tuple #[ZF.val g, (Za .u64).val h] ∧ ZF.rel v' g z.1 ∧ (Za .u64).rel v' h z.2) :=
  Zsp hv i f (ZZq f.2 hm)
theorem cmp_w {m : World} {e : Zd} (hv : VIn e m) {A : List Value} {a : (List Int)} (c : Rep.rel (Zu (Za .u64)) e A a) {B : List Value} {b : (List Int)} (d : Rep.rel (Zu (Za .u64)) e B b) {z : Int} (H : Zgi a b = some z) : Ret Tryz.prog 87 #[(Zu (Za .u64)).val A, (Zu (Za .u64)).val B] m e (fun y v' => ∃ C, y = (Za .i64).val C ∧ (Za .i64).rel v' C z) := by
  obtain ⟨D, E, G, rfl⟩ := Zua c; obtain ⟨I, J, L, rfl⟩ := Zua d; refine ZT (K := 41) (args := [.slice D (E) G, .slice I (J) L]) hv Tryz.func87 rfl rfl zl fun f S => ?_; unfold Zgi at H; refine sr (mw S rfl fun f S => oe (Zh fun _ P => sr (mv S rfl fun f S => ov S rfl (ZJ S (Zv c) rfl rfl ZU) fun f S => mv S rfl fun f S => ov S rfl (ZJ S (Zv d) rfl rfl ZU) fun f S => ov S rfl (Zi S rfl rfl ZFd) fun f S => oe ?_))); rcases Zw (((a.length : Int)) != ((b.length : Int))) with g | g
  · have H := Zy H g; refine ZD S rfl g (Zh fun _ Q => sr (mv S rfl fun f S => ov S rfl (ZJ S (Zv c) rfl rfl ZU) fun f S => mv S rfl fun f S => ov S rfl (ZJ S (Zv d) rfl rfl ZU) fun f S => ov S rfl (Zi S rfl rfl Z7) fun f S => oe ?_)); rcases Zw (decide ((a.length : Int) < (b.length : Int))) with h | h
    · have H := Zy H h; refine ZD S rfl h (sr (mw S rfl fun f S => oe (wp_ret (ZK (ZK ?_))))); obtain rfl := Zf H; refine ZA S (ZM rfl (ZB S rfl)) ⟨[.int .i64 ((-1 : Int))], rfl, (Zr (by decide))⟩
    have H := Zx H h; refine ZE S rfl h (wp_skip (Zc (Q _ _ (sr (mw S rfl fun f S => oe (wp_ret (ZK ?_))))))); obtain rfl := Zf H; refine ZA S (ZM rfl (ZB S rfl)) ⟨[.int .i64 ((1 : Int))], rfl, (Zr (by decide))⟩
  have H := Zx H g; refine ZE S rfl g (wp_skip (Zc (P _ _ (Zh fun _ R => Zh fun _ T => ?_)))); obtain ⟨ar, M, H⟩ := Zb H; refine Zm (mv S rfl fun f S => ov S rfl (ZJ S (Zv c) rfl rfl ZU) fun f S => ov S rfl (Zi S rfl rfl (ZMa M)) fun f S => mw S rfl fun f S => Zl (Zc (T _ _ ?_))); obtain ⟨U, V, o⟩ := Zb H; refine ZP (fun f w => ∃  (p : Zd), (.inl (())) = U ∧ Zd.le e p ∧ St 41 m e [] [] p f w) (fun _ W => ?_) ?_
  · have H := V; refine wp_block ?_; obtain ⟨au, X, q⟩ := Zb H; refine Zra X (fun Y f w => ∃ (i : Int) (r : Zd), i = Y ∧ Zd.le e r ∧ St 41 m e [(0, .slice D (E) G), (1, .slice I (J) L), (5, .int .i64 (i))] [] r f w ∧ inR .i64 i) ⟨_, _, rfl, (leR _), (S.fr' rfl), (Z4 M).2⟩ ?_; rintro _ f w st ⟨i, r, hq, n, S, av⟩ H aw Z s; subst hq; refine Zh fun _ aa => sr (mv S rfl fun f S => ov S rfl (Zi S rfl rfl Zgb) fun f S => oe ?_); rcases Zw (decide ((0 : Int) ≤ i)) with j | j
    · have H := Zy H j; refine ZD S rfl j (wp_skip (Zc (aa _ _ (Zh fun _ ab => wp_block (Zh fun _ ac => Zh fun _ ad => ?_))))); obtain ⟨ae, t, H⟩ := Zb H; obtain ⟨af, u, H⟩ := Zb H; refine Z8 (fl := #[true, true, true, true, true, true, true, true, true]) Z9 (by kernel_rfl) S ?_; intro ops O F w S; refine rfa O F 0 rfl rfl S (Zp S rfl) fun f S => rfa O F 1 rfl rfl S (Zp S rfl) fun f S => ?_; have c := Zn n c; obtain ⟨_, ax, ay, az, rfl, ag, ah⟩ := Zoa c (Zk t).2.1; obtain ⟨rfl, aA⟩ := ah; refine rfa O F 2 rfl rfl S (ZR S rfl rfl ZU (Zk t).1 (ltI (Zv c) (Zk t).2.2.1)) fun f S => rfa O F 3 rfl rfl S (Zca S rfl ZBa (S.view ag)) fun f S => rfa O F 4 rfl rfl S (Zp S rfl) fun f S => rfa O F 5 rfl rfl S (Zp S rfl) fun f S => ?_; have d := Zn n d; obtain ⟨_, aB, aC, aD, rfl, ai, aj⟩ := Zoa d (Zk u).2.1; obtain ⟨rfl, aE⟩ := aj; refine rfa O F 6 rfl rfl S (ZR S rfl rfl ZU (Zk u).1 (ltI (Zv d) (Zk u).2.2.1)) fun f S => rfa O F 7 rfl rfl S (Zca S rfl ZBa (S.view ai)) fun f S => rfa O F 8 rfl rfl S (Zi S rfl rfl Z7) fun f S => Z0 O F (Zc (ad _ _ ?_)); rcases Zw (decide (ae < af)) with k | k
      · have H := Zy H k; refine ZD S rfl k (sr (mw S rfl fun f S => oe (wp_ret (ZK (ZEa (ZK ?_)))))); obtain rfl := Zf H; have hq := s _ rfl; subst hq; have H := q; refine ZK (ZEa ?_); obtain rfl := Zf H; have H := o; refine ZK (ZK ?_); obtain rfl := Zf H; refine ZA S (ZM rfl (ZB S rfl)) ⟨[.int .i64 ((-1 : Int))], rfl, (Zr (by decide))⟩
      have H := Zx H k; refine ZE S rfl k (wp_skip (Zc (ac _ _ (Zh fun _ ak => ?_)))); obtain ⟨al, v, H⟩ := Zb H; obtain ⟨am, x, H⟩ := Zb H; refine Z8 (fl := #[true, true, true, true, true, true, true, true, true]) Z9 (by kernel_rfl) S ?_; intro ops O F w S; refine rfa O F 0 rfl rfl S (Zp S rfl) fun f S => rfa O F 1 rfl rfl S (Zp S rfl) fun f S => ?_; obtain ⟨aF, an, ao⟩ := ZEb c (Zk v).2.1; obtain ⟨rfl, aG⟩ := ao; refine rfa O F 2 rfl rfl S (ZR S rfl rfl ZU (Zk v).1 (ltI (Zv c) (Zk v).2.2.1)) fun f S => rfa O F 3 rfl rfl S (Zca S rfl ZBa (S.view an)) fun f S => rfa O F 4 rfl rfl S (Zp S rfl) fun f S => rfa O F 5 rfl rfl S (Zp S rfl) fun f S => ?_; obtain ⟨aH, ap, aq⟩ := ZEb d (Zk x).2.1; obtain ⟨rfl, aI⟩ := aq; refine rfa O F 6 rfl rfl S (ZR S rfl rfl ZU (Zk x).1 (ltI (Zv d) (Zk x).2.2.1)) fun f S => rfa O F 7 rfl rfl S (Zca S rfl ZBa (S.view ap)) fun f S => rfa O F 8 rfl rfl S (Zi S rfl rfl Zya) fun f S => Z0 O F (Zc (ak _ _ ?_)); rcases Zw (decide (am < al)) with l | l
      · have H := Zy H l; refine ZD S rfl l (sr (mw S rfl fun f S => oe (wp_ret (ZEa (ZK ?_))))); obtain rfl := Zf H; have hq := s _ rfl; subst hq; have H := q; refine ZK (ZEa ?_); obtain rfl := Zf H; have H := o; refine ZK (ZK ?_); obtain rfl := Zf H; refine ZA S (ZM rfl (ZB S rfl)) ⟨[.int .i64 ((1 : Int))], rfl, (Zr (by decide))⟩
      have H := Zx H l; refine ZE S rfl l (wp_skip (Zpa (Zc (ab _ _ ?_)))); obtain ⟨aJ, N, H⟩ := Zb H; refine Zm (mv S rfl fun f S => ov S rfl (Zi S rfl rfl (ZMa N)) fun f S => mw S rfl fun f S => Zl ?_); obtain rfl := Zf H; refine Z _ rfl _ _ ⟨_, _, rfl, n, (S.fr' rfl), (Z4 N).2⟩
    have H := Zx H j; refine ZE S rfl j (wp_exit (ZL ?_)); obtain rfl := Zf H; have hq := s _ rfl; subst hq; have H := q; refine ZL (Zja ?_); obtain rfl := Zf H; refine Zc (W _ _ ⟨_, rfl, (leT (leR _) n), (S.fr' rfl)⟩)
  rintro f w ⟨p, hq, aK, S⟩; subst hq; have H := o; refine Zc (R _ _ (sr (mw S rfl fun f S => oe (wp_ret ?_)))); obtain rfl := Zf H; refine ZA S (ZM rfl (ZB S rfl)) ⟨[.int .i64 ((0 : Int))], rfl, (Zr (by decide))⟩
theorem ZTf {d : World} {c : Zd} (hv : VIn c d) {e : List Value} {a : Nat} (f : Rep.rel ZF c e a) {g : List Value} {b : Nat} (h : Rep.rel ZF c g b) {z : Int} (hm : ZSd a b = some z) :
    Ret Tryz.prog 87 #[ZF.val e, ZF.val g] d c (fun y v' => ∃ i, y = (Za .i64).val i ∧ (Za .i64).rel v' i z) :=
  cmp_w hv f h ((cmp_eq (Zgm f) (Zgm h)).trans hm)
theorem mul64_w {e : World} {a : Zd} (hv : VIn a e) {g : List Value} {x : Int} (l : Rep.rel (Za .u64) a g x) {h : List Value} {y : Int} (m : Rep.rel (Za .u64) a h y) {z : Int × Int} (H : Znh x y = some z) : Ret Tryz.prog 147 #[(Za .u64).val g, (Za .u64).val h] e a (fun y v' => ∃ i c, y = .tuple #[(Za .u64).val i, (Za .u64).val c] ∧ (Za .u64).rel v' i z.1 ∧ (Za .u64).rel v' c z.2) := by
  obtain ⟨rfl, c⟩ := l; obtain ⟨rfl, B⟩ := m; refine ZT (K := 51) (args := [.int .u64 (x), .int .u64 (y)]) hv Tryz.func147 rfl rfl zl fun f S => ?_; unfold Znh at H; refine sr (mw S rfl fun f S => mw S rfl fun f S => oe (sr (mv S rfl fun f S => ov S rfl (Zi S rfl rfl ZYf) fun f S => mw S rfl fun f S => oe (Zh fun _ n => ?_)))); obtain ⟨b, o, H⟩ := Zb H; refine Zm (mv S rfl fun f S => ov S rfl (Zi S rfl rfl (ZCb o)) fun f S => mw S rfl fun f S => Zl (Zc (n _ _ (sr (mv S rfl fun f S => ov S rfl (Zi S rfl rfl ZYf) fun f S => mw S rfl fun f S => oe (Zh fun _ p => ?_)))))); obtain ⟨d, q, H⟩ := Zb H; refine Zm (mv S rfl fun f S => ov S rfl (Zi S rfl rfl (ZCb q)) fun f S => mw S rfl fun f S => Zl (Zc (p _ _ (sr (mv S rfl fun f S => mv S rfl fun f S => ov S rfl (Zi S rfl rfl Zmc) fun f S => mw S rfl fun f S => oe (Zh fun _ r => ?_)))))); obtain ⟨s, t, H⟩ := Zb H; refine Zm (mv S rfl fun f S => mv S rfl fun f S => ov S rfl (Zi S rfl rfl Zmc) fun f S => mv S rfl fun f S => ov S rfl (Zi S rfl rfl (ZCb t)) fun f S => ov S rfl (Zi S rfl rfl ZRb) fun f S => mw S rfl fun f S => Zl ?_); have S := S.fr' (σ' := [(0, .int .u64 (x)), (1, .int .u64 (y)), (6, .int .u64 (ZVa .u64 x ((4294967295 : Int)))), (7, .int .u64 (b)), (9, .int .u64 (d)), (11, .int .u64 (IntKind.u64.wrap ((IntKind.u64.wrap (b * (ZVa .u64 y ((4294967295 : Int))))) + s)))]) rfl
  refine Zc (r _ _ (sr (mv S rfl fun f S => ov S rfl (Zi S rfl rfl ZYf) fun f S => mw S rfl fun f S => oe (Zh fun _ u => ?_)))); obtain ⟨j, v, H⟩ := Zb H; refine Zm (mv S rfl fun f S => ov S rfl (Zi S rfl rfl (ZCb v)) fun f S => mw S rfl fun f S => Zl (Zc (u _ _ (sr (mv S rfl fun f S => mv S rfl fun f S => mv S rfl fun f S => ov S rfl (Zi S rfl rfl Zmc) fun f S => ov S rfl (Zi S rfl rfl ZRb) fun f S => mw S rfl fun f S => oe ?_))))); refine Zh fun _ w => ?_; obtain ⟨k, A, H⟩ := Zb H; refine Zm (mv S rfl fun f S => mv S rfl fun f S => ov S rfl (Zi S rfl rfl Zmc) fun f S => mv S rfl fun f S => ov S rfl (Zi S rfl rfl ZRb) fun f S => mv S rfl fun f S => ov S rfl (Zi S rfl rfl (ZCb A)) fun f S => ov S rfl (Zi S rfl rfl ZRb) fun f S => mw S rfl fun f S => Zl (Zc (w _ _ (sr (mv S rfl fun f S => ?_))))); refine mv S rfl fun f S => ov S rfl (Zi S rfl rfl Zmc) fun f S => mw S rfl fun f S => ?_; have S := S.fr' (σ' := [(4, .int .u64 (IntKind.u64.wrap ((IntKind.u64.wrap ((IntKind.u64.wrap (b * d)) + j)) + k))), (5, .int .u64 (IntKind.u64.wrap (x * y)))]) rfl; refine oe (wp_ret ?_); obtain rfl := Zf H; refine ZA S (ZIa rfl (ZB S rfl) (ZB S rfl)) ⟨[.int .u64 (IntKind.u64.wrap ((IntKind.u64.wrap ((IntKind.u64.wrap (b * d)) + j)) + k))], [.int .u64 (IntKind.u64.wrap (x * y))], rfl, (Zr (ZAa _ _)), (Zr (ZAa _ _))⟩
theorem Zlk {b : World} {a : Zd} (hv : VIn a b) {c : List Value} {x : Int} (g : Rep.rel (Za .u64) a c x) {d : List Value} {y : Int} (h : Rep.rel (Za .u64) a d y) {z : Int × Int} (hm : ZZd x y = some z) :
    Ret Tryz.prog 147 #[(Za .u64).val c, (Za .u64).val d] b a (fun y v' => ∃ e f, y = Value.tuple #[(Za .u64).val e, (Za .u64).val f] ∧ (Za .u64).rel v' e z.1 ∧ (Za .u64).rel v' f z.2) :=
  mul64_w hv g h (ZPp hm)
theorem take_w {R : World} {o : Zd} (hv : VIn o R) {a off0 g C : Nat} {E : TypeId} {pre0 cs0 post0 : List Value} {u : (List Int)} (bf : R.heap[a]? = some (.cells (pre0 ++ cs0 ++ post0).toArray E (0, 0))) (aG : off0 = pre0.length) (bg : o a = none) (au : g = u.length) (bh : g ≤ C ∧ C ≤ maxLen) (r : Rep.rels (Za .u64) o cs0 u) {c1 : List Value} {v : Nat} (D : Rep.rel ZF o c1 v) {c2 : List Value} {q : Int} (p2 : Rep.rel (Za .u64) o c2 q) {z : Bool × (List Int)} (H : ZQg u v q = some z) : RetL Tryz.prog 197 #[.slice (some ⟨a, off0, none⟩) g C, ZF.val c1, (Za .u64).val c2] R o [a] (fun y v' w' => (∃ r0, y = Z6.val r0 ∧ Z6.rel v' r0 z.1) ∧ v' a = none ∧ ∃ cs, w'.heap[a]? = some (.cells (pre0 ++ cs ++ post0).toArray E (0, 0)) ∧ g = z.2.length ∧ Rep.rels (Za .u64) v' cs z.2) := by
  obtain ⟨q1, V, W, rfl⟩ := Zaa D; obtain ⟨rfl, r4⟩ := p2; refine ZMm (K := 79) (args := [.slice (some ⟨a, off0, none⟩) (g) C, .slice q1 V W, .int .u64 (q)]) hv bf bg Tryz.func197 rfl rfl zl fun f S => ?_; unfold ZQg at H; refine sr (mw S rfl fun f S => oe (Zh fun _ bi => ?_)); obtain ⟨J, bj, H⟩ := Zb H; obtain ⟨cA, av, H⟩ := Zb H; refine Zm (mv S rfl fun f S => ov S rfl (ZJ S (Zv D) rfl rfl ZU) fun f S => ov S rfl (Zi S rfl rfl (Zfa bj)) fun f S => ?_); obtain ⟨aH, aQ⟩ : ∃ c : List Value, c = (List.replicate (J).toNat [.int .u64 ((0 : Int))]).flatten := ⟨_, rfl⟩; obtain ⟨aR, w, bk, S⟩ := Zkc Z4c S (l := J) (c := J) (Zna av).1 (Zna av).2.1 (Zna av).2.2.1 (Zna av).2.2.2 aQ; have bm : Rep.rels (Za .u64) o aH (List.replicate (J).toNat ((0 : Int))) := by rw [aQ]; exact Z0b (show Rep.rel (Za .u64) _ [.int .u64 ((0 : Int))] _ from (Zr (by decide))) _
  refine Zva wn rfl zl (bk rfl rfl) S fun f S => mw S rfl fun f S => Zl (Zc (bi _ _ (sr (mw S rfl fun f S => oe (Zh fun _ bn => sr (mv S rfl fun f S => ov S rfl (ZJ S (Zv D) rfl rfl ZU) fun f S => mv S rfl fun f S => oe ?_)))))); obtain ⟨bo, bp, bq⟩ := Zb H; refine ZP (fun f w => ∃ (L : (List Int)) (b : Int) (aI : Option Nat) (s : Nat) (G : Nat) (h : List Value) (X : Zd), (L, b) = bo ∧ Zd.le o X ∧ St 79 ⟨R, [a]⟩ o [(0, .slice (some ⟨a, off0, none⟩) (g) C), (1, .slice q1 V W), (7, .slice (mkA aI) (s) G), (8, .int .u64 (b))] [Loc.box a E (pre0 ++ cs0 ++ post0), Loc.own aI 211 1 (s) G h] X f w ∧ Rep.rels (Za .u64) X h L ∧ s = L.length ∧ inR .u64 b) (fun _ br => ?_) ?_
  · have H := bp; refine wp_block ?_; obtain ⟨cB, bs, bt⟩ := Zb H; have S := S.reorder (ℓ' := [Loc.box a E (pre0 ++ cs0 ++ post0), Loc.own (some aR) 211 1 ((J).toNat) (J).toNat aH]) [1, 0] rfl (by decide); refine Zra bs (fun bu f w => ∃ (Y : (List Int)) (ag : Int) (m : Int) (aw : Option Nat) (M : Nat) (Z : Nat) (I : List Value) (ax : Zd), (Y, ag, m) = bu ∧ Zd.le o ax ∧ St 79 ⟨R, [a]⟩ o [(0, .slice (some ⟨a, off0, none⟩) (g) C), (1, .slice q1 V W), (2, .int .u64 (q)), (7, .slice (mkA aw) (M) Z), (8, .int .u64 (ag)), (20, .slice q1 V W), (21, .int .i64 ((((Zj 18446744073709551616 v)).length : Int))), (22, .int .i64 (m))] [Loc.box a E (pre0 ++ cs0 ++ post0), Loc.own aw 211 1 (M) Z I] ax f w ∧ Rep.rels (Za .u64) ax I Y ∧ M = Y.length ∧ inR .u64 ag ∧ inR .i64 m) ⟨_, _, _, some aR, (J).toNat, (J).toNat, aH, _, rfl, (leR _), (S.fr' rfl), bm, (ZFb (x := (0 : Int))), (by decide), (by decide)⟩ ?_; rintro _ f w st ⟨Y, ag, m, aw, M, Z, I, ax, hq, ay, S, ah, ai, bv, cC⟩ H cD bw bx; subst hq; have r := ZV ay r; refine sr (ov S rfl (Zi S rfl rfl Z7) fun f S => oe (Zh fun _ bz => ?_)); rcases Zw (decide (m < (((Zj 18446744073709551616 v)).length : Int))) with aj | aj
    · have H := Zy H aj; refine ZD S rfl aj (wp_skip (Zc (bz _ _ (Zh fun _ bA => wp_block (Zh fun _ bB => ?_))))); obtain ⟨aJ, aK, H⟩ := Zb H; refine Zm (mv S rfl fun f S => ?_); have D := Zn ay D; obtain ⟨_, aS, aT, cE, rfl, bC, bD⟩ := Zoa D (Zk aK).2.1; obtain ⟨rfl, bE⟩ := bD; refine ov S rfl (ZR S rfl rfl ZU (Zk aK).1 (ltI (Zv D) (Zk aK).2.2.1)) fun f S => ov S rfl (Zca S rfl ZBa (S.view bC)) fun f S => mw S rfl fun f S => mw S rfl fun f S => Zl (Zc (bB _ _ (Zh fun _ bF => ?_))); obtain ⟨aU, bG, H⟩ := Zb H; refine Zm (mv S rfl fun f S => mv S rfl fun f S => opc S rfl (Zo S [.int .u64 (aJ), .int .u64 (q)] ZCk rfl rfl) (Zlk S.vin (show Rep.rel (Za .u64) _ [.int .u64 (aJ)] aJ from (Zr bE)) (show Rep.rel (Za .u64) _ [.int .u64 (q)] q from (Zr r4)) bG) ?_); rintro _ aV f w aL ⟨cF, cG, rfl, bH, bI⟩ S; have r := ZV aL r; have ah := ZV aL ah; obtain ⟨rfl, cH⟩ := bH; obtain ⟨rfl, cI⟩ := bI; refine mv S rfl fun f S => ov S rfl (ZO S rfl rfl) fun f S => ov S rfl (ZO S rfl rfl) fun f S => mw S rfl fun f S => mw S rfl fun f S => Zl (Zc (bF _ _ (sr (mw S rfl fun f S => oe (Zh fun _ bJ => ?_))))); obtain ⟨N, aW, H⟩ := Zb H; obtain ⟨cJ, aa, H⟩ := Zb H; refine Zm (mv S rfl fun f S => mv S rfl fun f S => mv S rfl fun f S => mv S rfl fun f S => ov S rfl (Z0e S [.int .u64 (aU.2), .int .u64 (ag), .int .u64 ((0 : Int))] (ZGg ZYg aW) rfl rfl) fun f S => mv S rfl fun f S => ov S rfl (ZO S rfl rfl) fun f S => ov S rfl (ZO S rfl rfl) fun f S => ?_)
      obtain ⟨aX, rfl⟩ := Z5b S (j := 1) rfl (Z8b ai (Zk aa).2.2.2); have aY := ZKa ah (Zk aa).2.1; obtain ⟨cK, bK⟩ : ∃ c, (List.take (Za .u64).n (List.drop ((m).toNat * (Za .u64).n) I)) = c := ⟨_, rfl⟩; rw [bK] at aY; obtain ⟨rfl, cL⟩ := aY; refine ov S rfl (ZR S rfl rfl ZU (Zk aa).1 (ltI ai (Zk aa).2.2.1)) fun f S => ?_; obtain ⟨w, bL, S⟩ := Z1b S ZBa (off := 0 + (m).toNat * 1) (z := .int .u64 (N.1)) (cs := [.int .u64 (N.1)]) (ZKb rfl) rfl (i := 1) rfl (Z6b S (j := 1) rfl (ltN ai (Zk aa).2.2.2)) (by first | rfl | simp [ZYa]); have bM : Rep.rels (Za .u64) aV (List.take (0 + (m).toNat * 1) I ++ [Value.int IntKind.u64 (N.1)] ++ List.drop (0 + (m).toNat * 1 + 1) I) (Y.set (m).toNat N.1) := ZOb ah (Zk aa).2.2.2 (show Rep.rel (Za .u64) aV [.int .u64 (N.1)] _ from (Zr (Zri aW))) rfl rfl; have bN : M = (Y.set (m).toNat N.1).length := ZNb ai; refine ZY wn rfl (bL rfl rfl) (mw S rfl fun f S => Zl ?_); have S := S.fr' (σ' := [(0, .slice (some ⟨a, off0, none⟩) (g) C), (1, .slice (some ⟨aS, aT, none⟩) V W), (2, .int .u64 (q)), (7, .slice (mkA (some aX)) (M) Z), (11, .int .u64 (aU.1)), (13, .int .u64 (N.2)), (20, .slice (some ⟨aS, aT, none⟩) V W), (21, .int .i64 ((((Zj 18446744073709551616 v)).length : Int))), (22, .int .i64 (m))]) rfl
      refine Zc (bJ _ _ (Zm (mv S rfl fun f S => mv S rfl fun f S => ov S rfl (Zi S rfl rfl ZRb) fun f S => mw S rfl fun f S => Zl (Zpa (Zc (bA _ _ ?_)))))); obtain ⟨cM, aZ, H⟩ := Zb H; refine Zm (ov S rfl (Zi S rfl rfl (Zfa aZ)) fun f S => mv S rfl fun f S => Zl ?_); obtain rfl := Zf H; refine bw _ rfl _ _ ⟨_, _, _, some aX, M, Z, (List.take (0 + (m).toNat * 1) I ++ [Value.int IntKind.u64 (N.1)] ++ List.drop (0 + (m).toNat * 1 + 1) I), _, rfl, (leT ay aL), (S.fr' rfl), bM, bN, (ZAa _ _), (Z4 aZ).2⟩
    have H := Zx H aj; refine ZE S rfl aj (wp_exit (ZL ?_)); obtain rfl := Zf H; have hq := bx _ rfl; subst hq; have H := bt; refine ZL (Zja ?_); obtain rfl := Zf H; refine Zc (br _ _ ⟨_, _, aw, M, Z, I, _, rfl, (leT (leR _) ay), (S.fr' rfl), ah, ai, bv⟩)
  rintro f w ⟨L, b, aI, s, G, h, X, hq, a0, S, a1, az, bO⟩; subst hq; have H := bq; have r := ZV a0 r; refine Zc (bn _ _ (Zh fun _ bP => ?_)); obtain ⟨cN, ab, H⟩ := Zb H; refine Zm (mv S rfl fun f S => mv S rfl fun f S => ?_); have D := Zn a0 D; refine ov S rfl (ZJ S (Zv D) rfl rfl ZU) fun f S => mv S rfl fun f S => ?_; obtain ⟨ac, rfl⟩ := Z5b S (j := 1) rfl (Z8b az (Zk ab).2.2.2); have a2 := ZKa a1 (Zk ab).2.1; obtain ⟨cO, bQ⟩ : ∃ c, (List.take (Za .u64).n (List.drop (((((Zj 18446744073709551616 v)).length : Int)).toNat * (Za .u64).n) h)) = c := ⟨_, rfl⟩; rw [bQ] at a2; obtain ⟨rfl, cP⟩ := a2; refine ov S rfl (ZR S rfl rfl ZU (Zk ab).1 (ltI az (Zk ab).2.2.1)) fun f S => ?_; obtain ⟨w, bR, S⟩ := Z1b S ZBa (off := 0 + ((((Zj 18446744073709551616 v)).length : Int)).toNat * 1) (z := .int .u64 (b)) (cs := [.int .u64 (b)]) (ZKb rfl) rfl (i := 1) rfl (Z6b S (j := 1) rfl (ltN az (Zk ab).2.2.2)) (by first | rfl | simp [ZYa]); have p : Rep.rels (Za .u64) X (List.take (0 + ((((Zj 18446744073709551616 v)).length : Int)).toNat * 1) h ++ [Value.int IntKind.u64 (b)] ++ List.drop (0 + ((((Zj 18446744073709551616 v)).length : Int)).toNat * 1 + 1) h) (L.set ((((Zj 18446744073709551616 v)).length : Int)).toNat b) := ZOb a1 (Zk ab).2.2.2 (show Rep.rel (Za .u64) X [.int .u64 (b)] _ from (Zr bO)) rfl rfl
  have aM : s = (L.set ((((Zj 18446744073709551616 v)).length : Int)).toNat b).length := ZNb az; refine ZY wn rfl (bR rfl rfl) (Zl (Zc (bP _ _ (Zh fun _ bS => Zh fun _ bT => ?_)))); obtain ⟨cQ, bU, H⟩ := Zb H; obtain ⟨cR, bV, H⟩ := Zb H; obtain ⟨bW, bX, H⟩ := Zb H; refine Zm (mv S rfl fun f S => ?_); have p0s120 := r; have h69s120 := p; have bY := S.vst.le; obtain ⟨cS, cT, a3, t, S, bZ, b1, b2, T⟩ := S.lendSeg (i := 0) (A := (Za .u64)) (l := u) (ℓ' := [Loc.own (some ac) 211 1 (s) G ((List.take (0 + ((((Zj 18446744073709551616 v)).length : Int)).toNat * 1) h ++ [Value.int IntKind.u64 (b)] ++ List.drop (0 + ((((Zj 18446744073709551616 v)).length : Int)).toNat * 1 + 1) h))]) rfl rfl aG r au bh; have p := ZV a3 p; refine opc S rfl (Zo S [.slice (some ⟨a, off0, none⟩) (g) C] ZHd rfl rfl) (ZQd S.vin (show Rep.rel (Zu (Za .u64)) _ [.slice (some ⟨a, off0, none⟩) (g) C] u from T) bU) ?_; rintro _ cU f w aA ⟨cV, rfl, P⟩ S; have p := ZV aA p; have t := aA _ _ t; obtain ⟨b3, b4, b5, rfl⟩ := Zaa P; refine mv S rfl fun f S => ?_; have T := Zn aA T; have h128s137 := T; have h69s137 := p; have h133s137 := P; have h124s137 := t; have b6 := S.vst.le; obtain ⟨cW, cX, aB, ak, S, b7, b8, b9, ca⟩ := S.lendSlice (i := 0) (A := (Za .u64)) (l := (L.set ((((Zj 18446744073709551616 v)).length : Int)).toNat b)) (ℓ' := []) rfl rfl rfl p aM
  have t := aB _ _ t; refine opc S rfl (Zo S [.slice (mkA (some ac)) (s) G] ZHd rfl rfl) (ZQd S.vin (show Rep.rel (Zu (Za .u64)) _ [.slice (mkA (some ac)) (s) G] ((L.set ((((Zj 18446744073709551616 v)).length : Int)).toNat b)) from ca) bV) ?_; rintro _ cY f w al ⟨cZ, rfl, a4⟩ S; have t := al _ _ t; have ak := al _ _ ak; obtain ⟨cb, cc, cd, rfl⟩ := Zaa a4; have P := Zn (leT aB al) P; refine opc S rfl (Zo S [.slice b3 b4 b5, .slice cb cc cd] Zig rfl rfl) (ZTf S.vin P a4 bX) ?_; rintro _ c0 f w am ⟨c3, rfl, ce⟩ S; have t := am _ _ t; have ak := am _ _ ak; obtain ⟨rfl, c4⟩ := ce; refine ov S rfl (Zi S rfl rfl Z7) fun f S => Zl ?_; obtain ⟨c5, an, S⟩ := S.takeBack (e := Loc.own (some ac) 211 1 (s) G ((List.take (0 + ((((Zj 18446744073709551616 v)).length : Int)).toNat * 1) h ++ [Value.int IntKind.u64 (b)] ++ List.drop (0 + ((((Zj 18446744073709551616 v)).length : Int)).toNat * 1 + 1) h))) (leT (leT aB al) am) rfl ak b7 b8 b6 b9; have T := Zn (leT (leT aB al) am) T; have T := Zn an h128s137; have p := ZV an h69s137; have P := Zn am P; have P := Zn an h133s137; have t := an _ _ h124s137; obtain ⟨a5, a6, S⟩ := S.takeBack (e := Loc.box a E (pre0 ++ cs0 ++ post0)) (leT (leT a3 aA) an) rfl t bZ b1 bY b2; have r := ZV a6 p0s120
  have p := ZV a6 h69s120; refine Zc (bT _ _ ?_); rcases Zw (decide (bW < (0 : Int))) with ao | ao
  · have H := Zy H ao; refine ZD S rfl ao (sr (mw S rfl fun f S => oe (wp_ret (ZK ?_)))); obtain rfl := Zf H; refine Z5k S (ZM rfl (ZB S rfl)) ⟨⟨[.bool (false)], rfl, ZNa⟩, (S.boxAt (j := 0) rfl).2, _, (S.boxAt (j := 0) rfl).1, au, r⟩
  have H := Zx H ao; refine ZE S rfl ao (wp_skip (Zc (bS _ _ (sr (mw S rfl fun f S => oe (Zh fun _ cf => sr (mv S rfl fun f S => ov S rfl (ZJ S au rfl rfl ZU) fun f S => mv S rfl fun f S => oe ?_))))))); obtain ⟨cg, ch, ci⟩ := Zb H; refine ZP (fun f w => ∃ (aC : (List Int)) (aN : List Value) (aD : Zd), aC = cg ∧ Zd.le a5 aD ∧ St 79 ⟨R, [a]⟩ o [] [Loc.box a E (pre0 ++ aN ++ post0)] aD f w ∧ Rep.rels (Za .u64) aD aN aC ∧ g = aC.length) (fun _ cj => ?_) ?_
  · have H := ch; refine wp_block ?_; obtain ⟨c6, ck, cl⟩ := Zb H; refine Zra ck (fun cm f w => ∃ (ad : (List Int)) (ap : Int) (d : Int) (B : List Value) (ae : Zd), (ad, ap, d) = cm ∧ Zd.le a5 ae ∧ St 79 ⟨R, [a]⟩ o [(0, .slice (some ⟨a, off0, none⟩) (g) C), (7, .slice (mkA (some ac)) (s) G), (14, .int .u64 (ap)), (58, .int .i64 ((u.length : Int))), (59, .int .i64 (d))] [Loc.box a E (pre0 ++ B ++ post0), Loc.own (some ac) 211 1 (s) G ((List.take (0 + ((((Zj 18446744073709551616 v)).length : Int)).toNat * 1) h ++ [Value.int IntKind.u64 (b)] ++ List.drop (0 + ((((Zj 18446744073709551616 v)).length : Int)).toNat * 1 + 1) h))] ae f w ∧ Rep.rels (Za .u64) ae B ad ∧ g = ad.length ∧ inR .u64 ap ∧ inR .i64 d) ⟨_, _, _, cs0, _, rfl, (leR _), (S.fr' rfl), r, au, (by decide), (by decide)⟩ ?_; rintro _ f w st ⟨ad, ap, d, B, ae, hq, aO, S, af, Q, c7, c8⟩ H c9 cn co; subst hq; have p := ZV aO p; refine sr (ov S rfl (Zi S rfl rfl Z7) fun f S => oe (Zh fun _ cp => ?_)); rcases Zw (decide (d < (u.length : Int))) with aq | aq
    · have H := Zy H aq; refine ZD S rfl aq (wp_skip (Zc (cp _ _ (Zh fun _ cq => wp_block (sr (mv S rfl fun f S => mw S rfl fun f S => oe ?_)))))); obtain ⟨a7, aE, H⟩ := Zb H; obtain ⟨a8, aF, H⟩ := Zb H; obtain ⟨U, aP, H⟩ := Zb H; obtain ⟨da, ar, H⟩ := Zb H; refine Z8 (fl := #[true, true, true, true, true, true, true, true, true, true, true, false, true, true, true, true, false, false]) Z9 (by kernel_rfl) S ?_; intro ops O F w S; refine rfa O F 0 rfl rfl S (Zp S rfl) fun f S => rfa O F 1 rfl rfl S (Zp S rfl) fun f S => rfa O F 2 rfl rfl S (Zp S rfl) fun f S => rfa O F 3 rfl rfl S (Zp S rfl) fun f S => ?_; have a9 := ZKa af (Zk aE).2.1; obtain ⟨db, ba⟩ : ∃ c, (List.take (Za .u64).n (List.drop ((d).toNat * (Za .u64).n) B)) = c := ⟨_, rfl⟩; rw [ba] at a9; obtain ⟨rfl, cr⟩ := a9; refine rfa O F 4 rfl rfl S (ZR S rfl rfl ZU (Zk aE).1 (ltI Q (Zk aE).2.2.1)) fun f S => rfa O F 5 rfl rfl S (Zca S rfl ZBa (Zpg S (j := 0) rfl aG (ZLb af Q) ba (ltN Q (Zk aE).2.2.2) 0 [.int .u64 (a7)] rfl zl)) fun f S => rfa O F 6 rfl rfl S (Zp S rfl) fun f S => rfa O F 7 rfl rfl S (Zp S rfl) fun f S => ?_; have bb := ZKa p (Zk aF).2.1; obtain ⟨dc, bc⟩ : ∃ c, (List.take (Za .u64).n (List.drop ((d).toNat * (Za .u64).n) (List.take (0 + ((((Zj 18446744073709551616 v)).length : Int)).toNat * 1) h ++ [Value.int IntKind.u64 (b)] ++ List.drop (0 + ((((Zj 18446744073709551616 v)).length : Int)).toNat * 1 + 1) h))) = c := ⟨_, rfl⟩
      rw [bc] at bb; obtain ⟨rfl, ct⟩ := bb; refine rfa O F 8 rfl rfl S (ZR S rfl rfl ZU (Zk aF).1 (ltI aM (Zk aF).2.2.1)) fun f S => rfa O F 9 rfl rfl S (Zca S rfl ZBa (Z7c S (j := 1) rfl bc (ltN aM (Zk aF).2.2.2) 0 [.int .u64 (a8)] rfl zl)) fun f S => rfa O F 10 rfl rfl S (Zp S rfl) fun f S => go1 O F 11 (nva [5, 9, 10, 4, 8, 2, 3, 6, 7] [0, 1] O rfl rfl S (Z0e S [.int .u64 (a7), .int .u64 (a8), .int .u64 (ap)] (Ztm Z1l cr ct aP) rfl rfl) fun f S => ⟨(py S rfl rfl (Zp S rfl) (py S rfl rfl (Zp S rfl) Zq)), rfa O F 12 rfl rfl S (Zp S rfl) fun f S => rfa O F 13 rfl rfl S (ZO S rfl rfl) fun f S => rfa O F 14 rfl rfl S (ZO S rfl rfl) fun f S => ?_⟩); have bd := ZKa af (Zk ar).2.1; obtain ⟨dd, cu⟩ : ∃ c, (List.take (Za .u64).n (List.drop ((d).toNat * (Za .u64).n) B)) = c := ⟨_, rfl⟩; rw [cu] at bd; obtain ⟨rfl, de⟩ := bd; refine rfa O F 15 rfl rfl S (ZR S rfl rfl ZU (Zk ar).1 (ltI Q (Zk ar).2.2.1)) fun f S => go1 O F 16 ?_; obtain ⟨w, cv, S⟩ := ZSn S (k := (d).toNat) ZBa (z := .int .u64 (U.1)) (c := [.int .u64 (U.1)]) (ZKb rfl) rfl (i := 0) rfl aG (ZLb af Q) (ltN Q (Zk ar).2.2.2) rfl (by first | rfl | simp [ZYa]); have cw : Rep.rels (Za .u64) ae (List.take (0 + (d).toNat * 1) B ++ [Value.int IntKind.u64 (U.1)] ++ List.drop (0 + (d).toNat * 1 + 1) B) (ad.set (d).toNat U.1) := ZOb af (Zk ar).2.2.2 (show Rep.rel (Za .u64) ae [.int .u64 (U.1)] _ from (Zr (ZTm aP))) rfl rfl
      have cx : g = (ad.set (d).toNat U.1).length := ZNb Q; refine nxs [0, 1, 2, 3, 4, 5, 6, 7, 8, 9, 10, 11, 12, 13, 15] [14] O rfl rfl (cv rfl rfl) (⟨(py S rfl rfl (ZO S rfl rfl) Zq), go1 O F 17 (nva [0, 1, 2, 3, 4, 5, 6, 7, 8, 9, 10, 11, 12, 13, 14, 15, 16] [] O rfl rfl S (Zga S rfl) fun f S => ⟨Zq, Z0 O F (Zpa (Zc (cq _ _ ?_)))⟩)⟩); obtain ⟨df, be, H⟩ := Zb H; refine Zm (ov S rfl (Zi S rfl rfl (Zfa be)) fun f S => mv S rfl fun f S => Zl ?_); obtain rfl := Zf H; refine cn _ rfl _ _ ⟨_, _, _, (List.take (0 + (d).toNat * 1) B ++ [Value.int IntKind.u64 (U.1)] ++ List.drop (0 + (d).toNat * 1 + 1) B), _, rfl, aO, (S.fr' rfl), cw, cx, (Z9m aP), (Z4 be).2⟩
    have H := Zx H aq; refine ZE S rfl aq (wp_exit (ZL ?_)); obtain rfl := Zf H; have hq := co _ rfl; subst hq; have H := cl; refine ZL (Zja ?_); obtain rfl := Zf H; have S := S.reorder (ℓ' := [Loc.box a E (pre0 ++ B ++ post0)]) [0] rfl (by decide); refine Zc (cj _ _ ⟨_, B, _, rfl, (leT (leR _) aO), (S.fr' rfl), af, Q⟩)
  rintro f w ⟨aC, aN, aD, hq, dg, S, cy, cz⟩; subst hq; have H := ci; refine Zc (cf _ _ (sr (mw S rfl fun f S => oe (wp_ret ?_)))); obtain rfl := Zf H; refine Z5k S (ZM rfl (ZB S rfl)) ⟨⟨[.bool (true)], rfl, ZNa⟩, (S.boxAt (j := 0) rfl).2, _, (S.boxAt (j := 0) rfl).1, cz, cy⟩
end Go.Eng
