/- Lemmas towards the statement: the engine of the walks, the functions' models, laws and walks, part 3. Conditions: as each states. -/
import Derived.Lib.AppendStr
import Derived.Lib.Builder
import Derived.Lib.UnsafeStr
import Derived.Test.YtmmnpljhffbjhaaGreatProg
import Derived.Test.YtmmnpljhffbjhaaGreatRxB
set_option linter.all false
set_option maxRecDepth 100000
namespace Go.Eng
noncomputable def Zxh (a : Nat) (b : Nat) : Option (Nat × Nat) :=
 bnd (ZEd a b) fun t =>
 ifb (decide (t < (0 : Int)))
 (some (((0 : Nat),a)))
 (ifb (((((Zl 4294967296 b)).length : Int)) == ((1 : Int)))
 (bnd (idx ((Zl 4294967296 b)) ((0 : Int))) fun u =>
 bnd (ZIe a u) fun l =>
 bnd (ZCd (IntKind.u64.wrap l.2)) fun v =>
 some ((l.1,v)))
 (bnd (chk .i64 (((32 : Int)) * ((((Zl 4294967296 b)).length : Int)))) fun w =>
 bnd (Zlg b) fun x =>
 bnd (chk .i64 (w - x)) fun i =>
 bnd (Zre b i) fun c =>
 bnd (Zre a i) fun y =>
 bnd (chk .i64 (((((Zl 4294967296 a)).length : Int)) - ((((Zl 4294967296 c)).length : Int)))) fun z =>
 bnd (chk .i64 (z + ((2 : Int)))) fun g =>
 bnd (mk 4 g g) fun ae =>
 bnd (chk .i64 (((((List.replicate (g).toNat ((0 : Int)))).length : Int)) - ((1 : Int)))) fun A =>
 bnd (bnd (Zaa (fun s : Nat × (List Int) × Int=>match s with
 | (e,h,d) =>
 (ifb (decide ((0 : Int) ≤ d))
 (bnd (bnd (ifb (decide (d < (((Zl 4294967296 e)).length : Int)))
 (bnd (ZFb ((Zl 4294967296 e)) d ((((Zl 4294967296 e)).length : Int))) fun B =>
 some B)
 (some (([] : (List Int)))))
 (fun (f : (List Int)) =>
 (bnd (Z2c f) fun C =>
 bnd (ZEd C c) fun D =>
 ifb (decide (D < (0 : Int)))
 (some ((e,h)))
 (bnd (chk .i64 (((((Zl 4294967296 c)).length : Int)) - ((1 : Int)))) fun E =>
 bnd (idx f E) fun m =>
 bnd (ifb (decide ((((Zl 4294967296 c)).length : Int) < (f.length : Int)))
 (bnd (idx f ((((Zl 4294967296 c)).length : Int))) fun F =>
 bnd (ZRb .u64 (IntKind.u64.wrap F) ((32 : Int))) fun G =>
 some (orI .u64 (IntKind.u64.wrap m) G))
 (some (IntKind.u64.wrap m)))
 (fun (H : Int) =>
 (bnd (chk .i64 (((((Zl 4294967296 c)).length : Int)) - ((1 : Int)))) fun I =>
 bnd (idx ((Zl 4294967296 c)) I) fun J =>
 bnd (quo .u64 H (IntKind.u64.wrap J)) fun n =>
 bnd (ifb (decide ((4294967295 : Int) < n))
 (some ((4294967295 : Int)))
 (some n))
 (fun (o : Int) =>
 (bnd (ZCd o) fun K =>
 bnd (Zdb c K) fun L =>
 bnd (bnd (Zaa (fun s : Int × Nat=>match s with
 | (q,j) =>
 (bnd (Z2c f) fun M =>
 bnd (ZEd j M) fun N =>
 ifb (decide ((0 : Int) < N))
 (bnd (ZHc j c) fun O =>
 some (.inl ((IntKind.u64.wrap (q - ((1 : Int))),O))))
 (some (.inr ((q,j)))))) Zqa ((o,L)))
 (fun (p : Int × Nat)=>match p with
 | (P,Q) =>
 (some ((P,Q)))))
 (fun (p : Int × Nat)=>match p with
 | (R,S) =>
 (bnd (idx h d) fun af =>
 bnd (ZFb ((Zl 4294967296 e)) ((0 : Int)) d) fun k =>
 bnd (Z5a 4 (([] : (List Int)) ++ k)) fun ag =>
 bnd (Z2c f) fun T =>
 bnd (ZHc T S) fun r =>
 bnd (Z5a 4 ((([] : (List Int)) ++ k) ++ ((Zl 4294967296 r)))) fun ah =>
 bnd (Z2b (((([] : (List Int)) ++ k) ++ ((Zl 4294967296 r))))) fun U =>
 some ((U,(h.set (d).toNat (IntKind.u32.wrap R))))))))))))))
 (fun (p : Nat × (List Int))=>match p with
 | (V,W) =>
 (bnd (chk .i64 (d - ((1 : Int)))) fun X =>
 some (.inl ((V,W,X))))))
 (some (.inr ((e,h)))))) Zqa ((y,(List.replicate (g).toNat ((0 : Int))),A)))
 (fun (p : Nat × (List Int))=>match p with
 | (Y,Z) =>
 (some ((Y,Z)))))
 (fun (p : Nat × (List Int))=>match p with
 | (aa,ab) =>
 (bnd (Z2b ab) fun ac =>
 bnd (Zag aa i) fun ad =>
 some ((ac,ad))))))
theorem Zek {B n : Nat} (hB : 2 ≤ B) (w : Nat) : (Zl B n).drop w = Zl B (n / B ^ w) := by
  induction w generalizing n with
  | zero => rw [List.drop_zero, Nat.pow_zero, Nat.div_one]
  | succ w ih =>
    by_cases h : n = 0
    · subst h; rw [Z4a, Nat.zero_div, Z4a]; rfl
    · rw [Zad hB h, List.drop_succ_cons, ih, Nat.div_div_eq_div_mul, Nat.pow_succ, Nat.mul_comm B]
theorem ZDp {B n : Nat} (hB : 2 ≤ B) (w : Nat) (h : w ≤ (Zl B n).length) : val B ((Zl B n).take w) = n % B ^ w := by
  have h1 := ZFd B (Zl B n) w h; rw [Z8a hB, Zkn hB] at h1; have h2 := Nat.mod_add_div n (B ^ w); omega
theorem ZXk {B n i : Nat} (hB : 2 ≤ B) (h : i < (Zl B n).length) : idx (Zl B n) (i : Int) = some ((n / B ^ i % B : Nat) : Int) := by
  rw [Zda h]; congr 1; have h1 := List.drop_eq_getElem_cons h; rw [Zek hB] at h1; have h2 : n / B ^ i ≠ 0 := by
    intro h2; rw [h2, Z4a] at h1
    cases h1
  rw [Zad hB h2] at h1; exact (List.cons.inj h1).1.symm
theorem Zqr {B n L : Nat} (hB : 2 ≤ B) (h1 : B ^ L ≤ n) (h2 : n < B ^ (L + 1)) : (Zl B n).length = L + 1 := by
  have h3 := Zhf hB h2; have h4 := Z1c hB n; have h5 : ¬ (Zl B n).length ≤ L := by
    intro h5; have := Nat.pow_le_pow_right (n := B) (by omega) h5; omega
  omega
theorem Zzn {n m : Nat} : decide (Zfb n m < 0) = decide (n < m) := by
  unfold Zfb; by_cases h : n < m
  · rw [if_pos h, decide_eq_true h]; rfl
  · rw [if_neg h, decide_eq_false h]; split <;> rfl
theorem Z0m {n m : Nat} : decide (0 < Zfb n m) = decide (m < n) := by
  unfold Zfb; by_cases h : n < m
  · rw [if_pos h, decide_eq_false (show ¬ m < n by omega)]; rfl
  · rw [if_neg h]; by_cases h2 : m < n
    · rw [if_pos h2, decide_eq_true h2]; rfl
    · rw [if_neg h2, decide_eq_false h2]; rfl
theorem Zxg {n k : Nat} (h : n < 4294967296 ^ k) : (Zl 4294967296 n).length ≤ k := Zhf (by decide) h
theorem quo_end {a b q R rest : Nat} (hb : 0 < b) (hR : 0 < R) (h : rest < b * R) (e : a * R = rest + b * R * q) : q = a / b ∧ rest / R = a % b := by
  have h1 : a * R / (b * R) = q := by rw [e, Nat.add_mul_div_left _ _ (Nat.mul_pos hb hR), Nat.div_eq_of_lt h, Nat.zero_add]
  rw [Nat.mul_div_mul_right _ _ hR] at h1; have h2 : a * R % (b * R) = rest := by rw [e, Nat.add_mul_mod_self_left, Nat.mod_eq_of_lt h]
  rw [Nat.mul_mod_mul_right] at h2; exact ⟨h1.symm, by rw [← h2, Nat.mul_div_cancel _ hR]⟩
theorem Zaq {a b : Nat} (ha : Z9a a) (hb : Z9a b) (hb0 : b ≠ 0) : Zxh a b = some (a / b, a % b) := by
  unfold Zxh ZEd; rw [Zf, Zzn]; by_cases hab : a < b
  · rw [decide_eq_true hab, ZL, Nat.div_eq_of_lt hab, Nat.mod_eq_of_lt hab]
  rw [decide_eq_false hab, ZK]; unfold Z9a at ha hb; have hLpos := List.length_pos_iff.2 ((Zid (n := b) (B := 4294967296) (by decide)).2 hb0); by_cases hL1 : (Zl 4294967296 b).length = 1
  · rw [hL1]; have hb1 : b < 4294967296 := by
      have := Z1c (B := 4294967296) (by decide) b; rw [hL1] at this; simpa using this
    rw [show (((1 : Nat) : Int) == 1) = true from rfl, ZL, Zsk (by decide) hb0 hb1, Zf]; unfold ZIe ZCd; rw [if_pos ⟨by unfold ZRa; omega, by omega⟩, Zf]; simp only [Int.toNat_natCast]; have hm := Nat.mod_lt a (Nat.pos_of_ne_zero hb0); rw [ZJb (by omega), Int.toNat_natCast]; rfl
  have e1 : (((Zl 4294967296 b).length : Int) == 1) = false := beq_false_of_ne (by omega); rw [e1, ZK]; obtain ⟨l, hl⟩ : ∃ l, (Zl 4294967296 b).length = l + 1 := ⟨(Zl 4294967296 b).length - 1, by omega⟩; have hbge : 4294967296 ^ l ≤ b := by have := ZJg (B := 4294967296) (by decide) hb0; rw [hl] at this; simpa using this
  have hblt : b < 4294967296 ^ (l + 1) := by have := Z1c (B := 4294967296) (by decide) b; rwa [hl] at this
  have hp : ∀ k, (4294967296 : Nat) ^ k = 2 ^ (32 * k) := fun k => by rw [Nat.pow_mul]
  obtain ⟨c, hc⟩ := ZBf hb0; obtain ⟨hc1, hc2⟩ := (Ztf hb0).1 hc; have hcl : 32 * l ≤ c := by
    have h1 : 2 ^ (32 * l) < 2 ^ (c + 1) := by rw [← hp]; omega
    have := (Nat.pow_lt_pow_iff_right (by omega : 1 < 2)).1 h1; omega
  have hcu : c + 1 ≤ 32 * (l + 1) := by
    have h1 : 2 ^ c < 2 ^ (32 * (l + 1)) := by rw [← hp]; omega
    have := (Nat.pow_lt_pow_iff_right (by omega : 1 < 2)).1 h1; omega
  obtain ⟨up, hup⟩ : ∃ up, up + (c + 1) = 32 * (l + 1) := ⟨32 * (l + 1) - (c + 1), by omega⟩; have hup31 : up ≤ 31 := by omega
  have hR : 0 < 2 ^ up := Nat.pow_pos (by omega); have hR31 : 2 ^ up ≤ 2147483648 := Nat.le_trans (Nat.pow_le_pow_right (by omega) hup31) (by decide); have c1 : chk .i64 (32 * ((l + 1 : Nat) : Int)) = some ((32 * (l + 1) : Nat) : Int) := by rw [show (32 * ((l + 1 : Nat) : Int)) = ((32 * (l + 1) : Nat) : Int) by omega, Zgb (by omega)]
  have c2 : Zlg b = some (((c + 1 : Nat)) : Int) := by unfold Zlg; rw [if_pos (by unfold ZRa; omega), hc]
  have c3 : chk .i64 (((32 * (l + 1) : Nat) : Int) - ((c + 1 : Nat) : Int)) = some (up : Int) := by rw [show ((32 * (l + 1) : Nat) : Int) - ((c + 1 : Nat) : Int) = (up : Int) by omega, Zgb (by omega)]
  have c4 : Zre b (up : Int) = some (b * 2 ^ up) := by unfold Zre; rw [if_pos ⟨by unfold ZRa; omega, by omega, by omega⟩, Int.toNat_natCast]
  have c5 : Zre a (up : Int) = some (a * 2 ^ up) := by unfold Zre; rw [if_pos ⟨by unfold ZRa; omega, by omega, by omega⟩, Int.toNat_natCast]
  rw [hl, c1, Zf, c2, Zf, c3, Zf, c4, Zf, c5, Zf]; have hv1 : 2 ^ (32 * l + 31) ≤ b * 2 ^ up := by
    have h1 := Nat.mul_le_mul_right (2 ^ up) hc1; rw [← Nat.pow_add] at h1; have h2 : c + up = 32 * l + 31 := by omega
    rw [h2] at h1; exact h1
  have hv2 : b * 2 ^ up < 4294967296 ^ (l + 1) := by
    have h1 := Nat.mul_lt_mul_of_pos_right hc2 hR; rw [← Nat.pow_add] at h1; have h2 : c + 1 + up = 32 * (l + 1) := by omega
    rw [h2, ← hp] at h1; exact h1
  have hvge : 4294967296 ^ l * 2147483648 ≤ b * 2 ^ up := by
    rw [hp, show (2147483648 : Nat) = 2 ^ 31 from rfl, ← Nat.pow_add]; exact hv1
  have hdm : ∀ n q : Nat, q ≠ 0 → n = q * (n / q) + n % q ∧ n % q < q := fun n q h => ⟨(Nat.div_add_mod n q).symm, Nat.mod_lt _ (by omega)⟩; obtain ⟨v, hv⟩ : ∃ v, v = b * 2 ^ up := ⟨_, rfl⟩; rw [← hv] at hv1 hv2 hvge ⊢; have hBl : 0 < 4294967296 ^ l := Nat.pow_pos (by omega); have hlv : (Zl 4294967296 v).length = l + 1 := Zqr (by decide) (by omega) hv2; have hv0 : 0 < v := by omega
  obtain ⟨M, hM⟩ : ∃ M, M = (Zl 4294967296 a).length := ⟨_, rfl⟩; have hML : l + 1 ≤ M := by rw [hM, ← hl]; exact Zod (by decide) (by omega)
  have haM : a < 4294967296 ^ M := by rw [hM]; exact Z1c (by decide) a
  rw [hlv, ← hM]; rw [← hM] at ha; have c6 : chk .i64 ((M : Int) - ((l + 1 : Nat) : Int)) = some ((M - (l + 1) : Nat) : Int) := by rw [show (M : Int) - ((l + 1 : Nat) : Int) = ((M - (l + 1) : Nat) : Int) by omega, Zgb (by omega)]
  obtain ⟨K, hK⟩ : ∃ K, K + (l + 1) = M + 2 := ⟨M - (l + 1) + 2, by omega⟩; have c7 : chk .i64 (((M - (l + 1) : Nat) : Int) + 2) = some (K : Int) := by rw [show ((M - (l + 1) : Nat) : Int) + 2 = (K : Int) by omega, Zgb (by omega)]
  obtain ⟨u, hu⟩ := Zld (b := 4) (l := (K : Int)) (c := (K : Int)) (by omega) (by omega) (by omega) (by omega); rw [c6, Zf, c7, Zf, hu, Zf, Int.toNat_natCast, List.length_replicate, Zva (by omega) (by omega), Zf, Z2a]; obtain ⟨ra, hra⟩ : ∃ ra, ra = a * 2 ^ up := ⟨_, rfl⟩; rw [← hra]; have hraM : ra < 4294967296 ^ (M + 1) := by
    rw [hra, Nat.pow_succ]; exact Nat.mul_lt_mul'' haM (by omega)
  have hra0 : ra < v * 4294967296 ^ K := by
    have h1 : 4294967296 ^ l * 2147483648 * 4294967296 ^ K ≤ v * 4294967296 ^ K := Nat.mul_le_mul_right _ hvge; have h2 : 4294967296 ^ l * 2147483648 * 4294967296 ^ K = 4294967296 ^ (M + 1) * 2147483648 := by
      rw [Nat.mul_right_comm, ← Nat.pow_add, show l + K = M + 1 by omega]
    omega
  refine Zhb (fun s : Nat × (List Int) × Int => ∃ k : Nat, s.2.2 = (k : Int) - 1 ∧ k ≤ K ∧ s.2.1.length = K ∧ Dig 4294967296 s.2.1 ∧ (∀ i (h : i < s.2.1.length), i < k → s.2.1[i] = 0) ∧
      s.1 < v * 4294967296 ^ k ∧ s.1 ≤ ra ∧ ra = s.1 + v * (4294967296 ^ k * val 4294967296 (s.2.1.drop k))) (fun s => (s.2.2 + 1).toNat)
    (fun r : Nat × List Int => r.1 < v ∧ r.1 ≤ ra ∧ ra = r.1 + v * val 4294967296 r.2) ⟨K, rfl, by omega, by simp, Dig.replicate _ (by omega), by intro i h _; simp, hra0, Nat.le_refl _, by simp [List.drop_eq_nil_of_le, val]⟩ (ZVa (by simp; omega)) ?_ ?_
  · rintro ⟨rest, out, j⟩ ⟨k, hj, hk, ho, hd, hz, hlt, hle, he⟩; simp only at hj ho hd hz hlt hle he ⊢; subst hj; by_cases hk0 : k = 0
    · right; subst hk0; rw [show decide ((0 : Int) ≤ ((0 : Nat) : Int) - 1) = false from rfl, ZK]; refine ⟨_, rfl, by simpa using hlt, hle, by simpa using he⟩
    left; obtain ⟨j, rfl⟩ : ∃ j, k = j + 1 := ⟨k - 1, by omega⟩; have ej : ((j + 1 : Nat) : Int) - 1 = (j : Int) := by omega
    rw [ej, decide_eq_true (show (0 : Int) ≤ (j : Int) by omega), ZL]; have hjo : j < out.length := by omega
    have cA : ifb (decide ((j : Int) < ((Zl 4294967296 rest).length : Int))) (bnd (ZFb (Zl 4294967296 rest) (j : Int) ((Zl 4294967296 rest).length : Int)) fun y654 => some y654) (some ([] : List Int)) = some (Zl 4294967296 (rest / 4294967296 ^ j)) := by
      rw [← Zek (by decide)]; by_cases h : j < (Zl 4294967296 rest).length
      · rw [decide_eq_true (by omega), ZL]; have : ZFb (Zl 4294967296 rest) (j : Int) ((Zl 4294967296 rest).length : Int) = some ((Zl 4294967296 rest).drop j) := by
          unfold ZFb; rw [if_pos ⟨by omega, by omega, by omega⟩]; simp
        rw [this, Zf]
      · rw [decide_eq_false (by omega), ZK, List.drop_eq_nil_of_le (by omega)]
    rw [cA, Zf, Zgn, Zf, Zf, Zzn]; obtain ⟨p, hpp⟩ : ∃ p, p = rest / 4294967296 ^ j := ⟨_, rfl⟩; rw [← hpp]; have hBj : 0 < 4294967296 ^ j := Nat.pow_pos (by omega); have hrp := Nat.div_add_mod rest (4294967296 ^ j); have hrm := Nat.mod_lt rest hBj; rw [← hpp] at hrp; have hpv : p < v * 4294967296 := by
      rw [hpp, Nat.div_lt_iff_lt_mul hBj]; rw [Nat.pow_succ] at hlt; rw [Nat.mul_assoc, Nat.mul_comm 4294967296]; exact hlt
    have cz : out[j] = 0 := hz j hjo (by omega); have hdrop : val 4294967296 (out.drop j) = 4294967296 * val 4294967296 (out.drop (j + 1)) := by rw [ZPc hjo, cz]; simp
    have cend : chk .i64 ((j : Int) - 1) = some ((j : Int) - 1) := Zva (by omega) (by omega); by_cases hpl : p < v
    · rw [decide_eq_true hpl, ZL, Zf]; simp only; rw [cend, Zf]; refine ⟨_, rfl, ⟨j, rfl, by omega, ho, hd, fun i h hi => hz i h (by omega), ?_, hle, ?_⟩, by simp⟩
      · have := Nat.mul_le_mul_left (4294967296 ^ j) (show p + 1 ≤ v by omega); rw [Nat.mul_add, Nat.mul_comm (4294967296 ^ j) v] at this; simp only; omega
      · simp only; rw [hdrop, he, Nat.pow_succ]; grind
    rw [decide_eq_false hpl, ZK]; have hp1 : p < 4294967296 ^ (l + 1 + 1) := by
      rw [Nat.pow_succ]; exact Nat.lt_trans hpv (Nat.mul_lt_mul_of_pos_right hv2 (by omega))
    have hplen1 := Zxg hp1; have hplen0 : l + 1 ≤ (Zl 4294967296 p).length := by rw [← hlv]; exact Zod (by decide) (by omega)
    have cl : chk .i64 (((l + 1 : Nat) : Int) - 1) = some (l : Int) := by rw [show ((l + 1 : Nat) : Int) - 1 = (l : Int) by omega, Zgb (by omega)]
    rw [cl, Zf, ZXk (by decide) (by omega : l < (Zl 4294967296 p).length), Zf]; obtain ⟨h, hh⟩ : ∃ h, h = p / 4294967296 ^ l := ⟨_, rfl⟩; have hh64 : h < 18446744073709551616 := by
      rw [hh]; apply Nat.div_lt_of_lt_mul; rw [Nat.pow_succ, Nat.pow_succ] at hp1; rw [show (18446744073709551616 : Nat) = 4294967296 * 4294967296 from rfl, ← Nat.mul_assoc]; exact hp1
    rw [← hh]; have cH : ifb (decide (((l + 1 : Nat) : Int) < ((Zl 4294967296 p).length : Int))) (bnd (idx (Zl 4294967296 p) ((l + 1 : Nat) : Int)) fun y641 => bnd (ZRb .u64 (IntKind.u64.wrap y641) 32) fun y647 => some (orI .u64 (IntKind.u64.wrap ((h % 4294967296 : Nat) : Int)) y647)) (some (IntKind.u64.wrap ((h % 4294967296 : Nat) : Int))) = some (h : Int) := by
      rw [ZJb (by omega)]; have hhd : p / 4294967296 ^ (l + 1) = h / 4294967296 := by rw [hh, Nat.div_div_eq_div_mul, Nat.pow_succ]
      by_cases hq : l + 1 < (Zl 4294967296 p).length
      · rw [decide_eq_true (by omega), ZL, ZXk (by decide) hq, Zf, hhd, ZJb (by omega)]; have hx : h / 4294967296 % 4294967296 = h / 4294967296 := Nat.mod_eq_of_lt (by omega); rw [hx]; have e1 : ZRb .u64 ((h / 4294967296 : Nat) : Int) 32 = some ((h / 4294967296 * 2 ^ 32 : Nat) : Int) := by
          have := Zxe (x := h / 4294967296) (k := 32) (by omega); rw [Nat.mod_eq_of_lt (by omega)] at this; exact this
        have e2 : orI .u64 ((h % 4294967296 : Nat) : Int) ((h / 4294967296 * 2 ^ 32 : Nat) : Int) = (h : Int) := by
          have hc : orI .u64 ((h % 4294967296 : Nat) : Int) ((h / 4294967296 * 2 ^ 32 : Nat) : Int) = orI .u64 ((h / 4294967296 * 2 ^ 32 : Nat) : Int) ((h % 4294967296 : Nat) : Int) := by unfold orI; rw [BitVec.or_comm]
          rw [hc, Znf (k := 32) (by omega) (by omega)]; exact congrArg (fun q : Nat => (q : Int)) (by omega)
        rw [e1, Zf, e2]
      · rw [decide_eq_false (by omega), ZK]; have h0 : p / 4294967296 ^ (l + 1) = 0 := Nat.div_eq_of_lt (by
          have := Z1c (B := 4294967296) (by decide) p; have e : (Zl 4294967296 p).length = l + 1 := by omega
          rwa [e] at this)
        rw [hhd] at h0; exact congrArg (fun q : Nat => some (q : Int)) (by omega)
    rw [cH, Zf, Zf, ZXk (by decide) (by omega : l < (Zl 4294967296 v).length), Zf]; obtain ⟨t, ht⟩ : ∃ t, t = v / 4294967296 ^ l := ⟨_, rfl⟩; have ht1 : 2147483648 ≤ t := by rw [ht, Nat.le_div_iff_mul_le hBl, Nat.mul_comm]; exact hvge
    have ht2 : t < 4294967296 := by rw [ht]; apply Nat.div_lt_of_lt_mul; rw [Nat.pow_succ] at hv2; exact hv2
    rw [← ht, Nat.mod_eq_of_lt ht2, ZJb (by omega), Zvg (by omega) hh64, Zf]; have hq0 : p / v ≤ h / t := by
      rw [hh, ht, Nat.div_div_eq_div_mul]; apply Nat.div_le_div_left
      · exact Nat.mul_div_le v (4294967296 ^ l)
      · exact Nat.mul_pos hBl (by rw [← ht]; omega)
    have hqB : p / v < 4294967296 := (Nat.div_lt_iff_lt_mul hv0).2 (by rw [Nat.mul_comm]; exact hpv); obtain ⟨q, hq⟩ : ∃ q, q = p / v := ⟨_, rfl⟩; rw [← hq] at hq0 hqB; have hpq := Nat.div_add_mod p v; have hpr := Nat.mod_lt p hv0; rw [← hq] at hpq; obtain ⟨g, hg1, hg2, cG⟩ : ∃ g : Nat, q ≤ g ∧ g < 4294967296 ∧ ifb (decide ((4294967295 : Int) < ((h / t : Nat) : Int))) (some (4294967295 : Int)) (some ((h / t : Nat) : Int)) = some (g : Int) := by
      by_cases hx : 4294967295 < h / t
      · exact ⟨4294967295, by omega, by omega, by rw [decide_eq_true (by omega), ZL]; rfl⟩
      · exact ⟨h / t, hq0, by omega, by rw [decide_eq_false (by omega), ZK]⟩
    have okp : ∀ n, n < 4294967296 ^ (l + 1 + 1) → ZRa n := fun n hn => by unfold ZRa; have := Zxg hn; omega
    have hvg : ∀ x, x < 4294967296 → v * x < 4294967296 ^ (l + 1 + 1) := fun x hx => by rw [Nat.pow_succ]; exact Nat.mul_lt_mul'' hv2 hx
    have okg : ZRa g := by
      unfold ZRa; have := Zxg (n := g) (k := 1) (by simpa using hg2); omega
    have okv : ZRa v := by unfold ZRa; omega
    have cN : ZCd (g : Int) = some g := by unfold ZCd; rw [Int.toNat_natCast]
    have cP : Zdb v g = some (v * g) := by unfold Zdb; rw [if_pos ⟨okv, okg⟩]
    rw [cG, Zf, cN, Zf, cP, Zf, Z2a, Z2a]; refine Z1k (s := ((g : Int), v * g)) (fun s : Int × Nat => ∃ x : Nat, s.1 = (x : Int) ∧ s.2 = v * x ∧ q ≤ x ∧ x < 4294967296) (fun s => s.1.toNat) (fun r : Int × Nat => r = ((q : Int), v * q)) ⟨g, rfl, rfl, hg1, hg2⟩ (ZVa (by simp; omega)) ?_ ?_
    · rintro ⟨x, y⟩ ⟨x, rfl, rfl, hx1, hx2⟩; simp only; rw [Zf, Zf, Z0m]; by_cases hxp : p < v * x
      · left; have hx0 : q < x := by
          rcases Nat.lt_or_ge q x with h' | h'
          · exact h'
          · have := Nat.mul_le_mul_left v h'; omega
        have cD : ZHc (v * x) v = some (v * (x - 1)) := by
          unfold ZHc; have hle : v * 1 ≤ v * x := Nat.mul_le_mul_left v (by omega); rw [if_pos ⟨okp _ (hvg x hx2), by omega⟩, Nat.mul_sub, Nat.mul_one]
        have cW : IntKind.u64.wrap ((x : Int) - 1) = ((x - 1 : Nat) : Int) := by rw [show (x : Int) - 1 = ((x - 1 : Nat) : Int) by omega, ZJb (by omega)]
        rw [decide_eq_true hxp, ZL, cD, Zf, cW]; exact ⟨_, rfl, ⟨x - 1, rfl, rfl, by omega, by omega⟩, by simp; omega⟩
      · right; have hxq : x = q := by
          have h1 : x ≤ p / v := (Nat.le_div_iff_mul_le hv0).2 (by rw [Nat.mul_comm]; omega); omega
        subst hxq; rw [decide_eq_false hxp, ZK]; exact ⟨_, rfl, rfl⟩
    · rintro _ rfl; rw [Zf]; simp only; have hjr : j < (Zl 4294967296 rest).length := by
        rcases Nat.lt_or_ge j (Zl 4294967296 rest).length with h' | h'
        · exact h'
        · have h1 : (Zl 4294967296 rest).drop j = [] := List.drop_eq_nil_of_le h'; rw [Zek (by decide), ← hpp] at h1; have := (Zeg (B := 4294967296) (by decide)).1 h1; omega
      have hrl : (Zl 4294967296 rest).length ≤ M + 1 := by
        have := Zod (B := 4294967296) (by decide) hle; have := Zxg hraM; omega
      have cC : ZFb (Zl 4294967296 rest) 0 (j : Int) = some ((Zl 4294967296 rest).take j) := by
        unfold ZFb; rw [if_pos ⟨by omega, by omega, by omega⟩]; simp
      obtain ⟨r, hr⟩ : ∃ r, r = p % v := ⟨_, rfl⟩; rw [← hr] at hpq hpr; have cD : ZHc p (v * q) = some r := by
        unfold ZHc; rw [if_pos ⟨okp p hp1, by omega⟩]; exact congrArg some (by omega)
      have htl : ((Zl 4294967296 rest).take j).length = j := by rw [List.length_take]; omega
      have hrlen : (Zl 4294967296 r).length ≤ l + 1 := by rw [← hlv]; exact Zod (by decide) (by omega)
      rw [Zda hjo, Zf, cC, Zf, ZDe (by simp only [List.nil_append, htl]; omega), Zf, Zf, cD, Zf, ZDe (by simp only [List.nil_append, List.length_append, htl]; omega), Zf]; unfold Z2b; rw [Zf, Zf, List.nil_append, Zkd, htl, Z8a (by decide), ZDp (by decide) _ (by omega)]; have cW : IntKind.u32.wrap (q : Int) = (q : Int) := by rw [wrap_u32]; omega
      rw [cW, Int.toNat_natCast]; simp only; rw [cend, Zf]; have hnew : rest % 4294967296 ^ j + 4294967296 ^ j * r + v * (4294967296 ^ j * q) = rest := by
        rw [← hrp, ← hpq]; grind
      refine ⟨_, rfl, ⟨j, rfl, by omega, by simp [ho], hd.set _ (by omega), fun i hi hij => ?_, ?_, ?_, ?_⟩, by simp⟩
      · simp only at hi ⊢; rw [List.getElem_set_ne (by omega)]; exact hz i (by simpa using hi) (by omega)
      · simp only; have := Nat.mul_le_mul_left (4294967296 ^ j) (show r + 1 ≤ v by omega); rw [Nat.mul_add, Nat.mul_comm (4294967296 ^ j) v] at this; omega
      · simp only; omega
      · simp only; have e6 : (out.set j (q : Int)).drop j = (q : Int) :: out.drop (j + 1) := by
          rw [List.drop_eq_getElem_cons (by simpa using hjo), List.getElem_set_self, List.drop_set_of_lt (by omega)]
        rw [e6]; simp only [val, Int.toNat_natCast]; rw [he]
        conv => lhs; rw [← hnew]
        rw [Nat.pow_succ]; grind
  · rintro ⟨rest, out⟩ ⟨h1, h2, h3⟩; simp only at h1 h2 h3 ⊢; rw [Zf]; simp only; unfold Z2b; have hrl : (Zl 4294967296 rest).length ≤ M + 1 := by
      have := Zod (B := 4294967296) (by decide) h2; have := Zxg hraM; omega
    have cL : Zag rest (up : Int) = some (rest / 2 ^ up) := by unfold Zag; rw [if_pos ⟨by unfold ZRa; omega, by omega⟩, Int.toNat_natCast]
    rw [Zf, cL, Zf]; rw [hv] at h1 h3; rw [hra] at h3; obtain ⟨e1, e2⟩ := quo_end (Nat.pos_of_ne_zero hb0) hR h1 h3; rw [e1, e2]
theorem Z8o {n m : Nat} {z : Nat × Nat} (h : Zqd n m = some z) : Zxh n m = some z := by
  unfold Zqd at h; split at h
  · rename_i hh; rw [Zaq hh.1 hh.2.1 hh.2.2, h]
  · cases h
noncomputable def ZHg (a : Nat) (b : Nat) : Option (Nat) :=
 bnd (bnd (Zaa (fun s : Nat × Nat=>match s with
 | (d,c) =>
 (ifb (decide ((0 : Int) < (((Zl 4294967296 c)).length : Int)))
 (bnd (Zqd d c) fun e =>
 some (.inl ((c,e.2))))
 (some (.inr d)))) Zqa ((a,b)))
 (fun (f : Nat) =>
 (some f)))
 (fun (g : Nat) =>
 (some g))
noncomputable def Z9h (s : Bool) (n : Nat) (d : Nat) : Option (Rat) :=
 ifb (((((Zl 4294967296 n)).length : Int)) == ((0 : Int)))
 (bnd (Z2c ([(1 : Int)])) fun b =>
 bnd (ZSe false ((0 : Nat)) b) fun c =>
 some c)
 (bnd (rgcF n d) fun a =>
 bnd (Zqd n a) fun e =>
 bnd (Zqd d a) fun f =>
 bnd (ZSe s e.1 f.1) fun g =>
 some g)
theorem ZBk {n m : Nat} (h : n ≤ m) (hm : Z9a m) : Z9a n := by
  have := Zod (B := 4294967296) (by decide) h; unfold Z9a at *; omega
theorem Zlk {n : Nat} (h : Z9a n) : bl n ≤ 2199023255552 := by
  unfold Z9a at h; have h1 := Z1c (B := 4294967296) (by decide) n; have h2 : 4294967296 ^ (Zl 4294967296 n).length = 2 ^ (32 * (Zl 4294967296 n).length) := by rw [Nat.pow_mul]
  rw [h2] at h1; have := ZBc h1; omega
theorem sm32_of {n k : Nat} (h : bl n ≤ 32 * k) (hk : k ≤ 68719476736) : Z9a n := by
  unfold Z9a; refine Nat.le_trans (Zhf (B := 4294967296) (k := k) (by decide) ?_) hk; have h1 := ZJe n; have h2 : 4294967296 ^ k = 2 ^ (32 * k) := by rw [Nat.pow_mul]
  rw [h2]; exact Nat.lt_of_lt_of_le h1 (Nat.pow_le_pow_right (by omega) h)
theorem Zum {n : Nat} (h : bl n ≤ 2199023255552) : Z9a n := sm32_of (k := (bl n + 31) / 32) (by omega) (by omega)
theorem rgcd_eq {n m : Nat} (hn : Z9a n) (hm : Z9a m) : ZHg n m = some (Nat.gcd n m) := by
  unfold ZHg; rw [Z2a]; refine Zhb (fun s : Nat × Nat => Z9a s.1 ∧ Z9a s.2 ∧ Nat.gcd s.1 s.2 = Nat.gcd n m) (fun s => 2 * (bl s.1 + bl s.2) + if s.1 < s.2 then 1 else 0) (fun r : Nat => r = Nat.gcd n m) ⟨hn, hm, rfl⟩
    (ZVa (by have := Zlk hn; have := Zlk hm; simp only; split <;> omega)) ?_ ?_
  · rintro ⟨a, b⟩ ⟨ha, hb, hg⟩; simp only at ha hb hg ⊢; rw [Zdl]; by_cases h0 : b = 0
    · right; subst h0; exact ⟨_, rfl, by rw [← hg, Nat.gcd_zero_right]⟩
    · left; have h1 : Zqd a b = some (a / b, a % b) := by unfold Zqd; rw [if_pos ⟨ha, hb, h0⟩]
      have hlt : a % b < b := Nat.mod_lt _ (by omega); rw [decide_eq_true h0, ZL, h1, Zf]; refine ⟨_, rfl, ⟨hb, ZBk (Nat.le_of_lt hlt) hb, ?_⟩, ?_⟩
      · rw [← hg]; simp only; rw [Nat.gcd_comm b, ← Nat.gcd_rec, Nat.gcd_comm]
      · simp only; rw [if_neg (by omega)]; by_cases hab : a < b
        · rw [if_pos hab, Nat.mod_eq_of_lt hab]; omega
        · have := Zrm (a := a) (b := b) (by omega) h0; rw [if_neg hab]; omega
  · rintro r rfl; rw [Zf]
theorem rgcF_eq {n m z : Nat} (h : rgcF n m = some z) : ZHg n m = some z := by
  unfold rgcF at h; split at h
  · rename_i hh; rw [rgcd_eq hh.1 hh.2, h]
  · cases h
theorem ZNp {s : Bool} {n d : Nat} (hn : n ≠ 0) (hd : d ≠ 0) : decide ((mkRat (sgn s n) d).num < 0) = s ∧ (mkRat (sgn s n) d).num.natAbs = n / Nat.gcd n d ∧ (mkRat (sgn s n) d).den = d / Nat.gcd n d := by
  have e0 : (sgn s n).natAbs = n := by unfold sgn; split <;> omega
  have hg : 0 < Nat.gcd n d := Nat.gcd_pos_of_pos_left _ (Nat.pos_of_ne_zero hn); have hnum : (mkRat (sgn s n) d).num = sgn s n / (Nat.gcd n d : Int) := by rw [Rat.num_mkRat, Nat.gcd_comm, e0]; simp [hd, Nat.gcd_comm]
  have hden : (mkRat (sgn s n) d).den = d / Nat.gcd n d := by rw [Rat.den_mkRat, e0]; simp [hd, Nat.gcd_comm]
  obtain ⟨k, hk⟩ := Nat.gcd_dvd_left n d; have hk0 : k ≠ 0 := by rintro rfl; simp at hk; exact hn hk
  have hq : sgn s n / (Nat.gcd n d : Int) = sgn s k := by
    have : sgn s n = sgn s k * (Nat.gcd n d : Int) := by
      unfold sgn
      conv => lhs; rw [hk]
      split <;> grind
    rw [this, Int.mul_ediv_cancel _ (by omega)]
  have hnk : n / Nat.gcd n d = k := Nat.div_eq_of_eq_mul_right hg hk; rw [hnum, hq, hnk]; refine ⟨?_, by unfold sgn; split <;> omega, hden⟩
  cases s
  · apply decide_eq_false; simp only [sgn]; simp
  · apply decide_eq_true; simp only [sgn]; simp; omega
theorem Zpq {s : Bool} {n d : Nat} (hn : n ≠ 0) (hd : d ≠ 0) : ZSe s (n / Nat.gcd n d) (d / Nat.gcd n d) = some (mkRat (sgn s n) d) := by
  obtain ⟨h1, h2, h3⟩ := ZNp (s := s) hn hd; have := ZBn (mkRat (sgn s n) d); rw [h1, h2, h3] at this; exact this
theorem Zvq : ZSe false 0 1 = some 0 := ZBn 0
theorem Zkp {s : Bool} {n d : Nat} {z : Rat} (h : ZZb s n d = some z) : Z9h s n d = some z := by
  unfold ZZb at h; split at h
  · rename_i hh; obtain ⟨h1, h2, h3⟩ := hh
    cases h
    unfold Z9h; rw [ZWj]; by_cases h0 : n = 0
    · subst h0; rw [decide_eq_true rfl, ZL, ZAk, Zf, Zvq, Zf]; have e : sgn s 0 = 0 := by cases s <;> rfl
      rw [e, Rat.zero_mkRat]
    · have e1 : rgcF n d = some (Nat.gcd n d) := by unfold rgcF; rw [if_pos ⟨h1, h2⟩]
      have hg : Nat.gcd n d ≠ 0 := by have := Nat.gcd_pos_of_pos_left d (Nat.pos_of_ne_zero h0); omega
      have okg : Z9a (Nat.gcd n d) := ZBk (Nat.gcd_le_left _ (Nat.pos_of_ne_zero h0)) h1; have e2 : Zqd n (Nat.gcd n d) = some (n / Nat.gcd n d, n % Nat.gcd n d) := by unfold Zqd; rw [if_pos ⟨h1, okg, hg⟩]
      have e3 : Zqd d (Nat.gcd n d) = some (d / Nat.gcd n d, d % Nat.gcd n d) := by unfold Zqd; rw [if_pos ⟨h2, okg, hg⟩]
      rw [decide_eq_false h0, ZK, e1, Zf, e2, Zf, e3, Zf, Zpq h0 h3, Zf]
  · cases h
noncomputable def Zvh (n : Int) : Option (Rat) :=
 ifb (decide (n < (0 : Int)))
 (bnd (ZCd (IntKind.u64.wrap (-(IntKind.u64.wrap n)))) fun a =>
 bnd (Z2c ([(1 : Int)])) fun b =>
 bnd (ZZb true a b) fun c =>
 some c)
 (bnd (ZCd (IntKind.u64.wrap n)) fun d =>
 bnd (Z2c ([(1 : Int)])) fun e =>
 bnd (ZZb false d e) fun f =>
 some f)
noncomputable def Zij (n : Int) (d : Int) : Option (Rat × Int) :=
 ifb (d == ((0 : Int)))
 (bnd (ZCc ((0 : Int))) fun c =>
 some ((c,(3 : Int))))
 (bnd (ZCc n) fun a =>
 bnd (ZCc d) fun b =>
 bnd (ZZb ((decide (a.num < 0)) != (decide (b.num < 0))) a.num.natAbs b.num.natAbs) fun e =>
 some ((e,(0 : Int))))
noncomputable def ZTi (r : (Int × Int)) : Option (Rat) :=
 ifb (r.2 == ((0 : Int)))
 (bnd (ZCc r.1) fun a =>
 some a)
 (bnd (Z1h r.1 r.2) fun b =>
 some b.1)
noncomputable def Z2i (x : Rat) : Option (Int) :=
 bnd (ZId x) fun a =>
 ifb (a)
 (some ((0 : Int)))
 (ifb (decide (x.num < 0))
 (some ((-1 : Int)))
 (some ((1 : Int))))
theorem Z2f {n : Nat} (h : n ≤ 18446744073709551616) : Z9a n := Zum (Nat.le_trans (ZBc (show n < 2 ^ 65 by omega)) (by decide))
theorem Zxl (n : Int) : mkRat n 1 = (n : Rat) := by
  have := Rat.mkRat_self (n : Rat)
  simpa using this
theorem ZRp {n : Int} (h1 : -9223372036854775808 ≤ n) (h2 : n ≤ 9223372036854775807) : Zvh n = some (n : Rat) := by
  unfold Zvh; rw [ZAk]; unfold ZCd ZZb; by_cases h : n < 0
  · obtain ⟨k, rfl⟩ : ∃ k : Nat, n = -(k : Int) := ⟨n.natAbs, by omega⟩; have e1 : IntKind.u64.wrap (-(IntKind.u64.wrap (-(k : Int)))) = (k : Int) := by rw [wrap_u64, wrap_u64]; omega
    rw [decide_eq_true h, ZL, e1, Zf, Zf, Int.toNat_natCast, if_pos ⟨Z2f (by omega), Z2f (by omega), by omega⟩, Zf, Zxl]; rfl
  · obtain ⟨k, rfl⟩ := Int.eq_ofNat_of_zero_le (show 0 ≤ n by omega); rw [decide_eq_false h, ZK, ZJb (by omega), Zf, Zf, Int.toNat_natCast, if_pos ⟨Z2f (by omega), Z2f (by omega), by omega⟩, Zf, Zxl]; rfl
theorem ZUo {n : Int} {z : Rat} (hn : inR .i64 n) (h : ZCc n = some z) : Zvh n = some z := by
  have := Z6b.1 hn; unfold ZCc at h; rw [ZRp (by omega) (by omega), h]
theorem Z1n (n m : Int) : sgn (decide (n < 0) != decide (m < 0)) n.natAbs = if m < 0 then -n else n := by
  have := Zqk n m; unfold Z5b at this; exact Option.some.inj this
theorem ZXq {n d : Int} {z : Rat × Int} (hn : inR .i64 n) (hd : inR .i64 d) (h : Z1h n d = some z) : Zij n d = some z := by
  have hn := Z6b.1 hn; have hd := Z6b.1 hd; unfold Z1h at h
  cases h
  unfold Zij ZCc; by_cases h0 : d = 0
  · subst h0; rfl
  · have e0 : (d == 0) = false := by simp [h0]
    rw [e0, ZK, if_neg h0, Zf, Zf]; unfold ZZb; rw [Rat.num_intCast, Rat.num_intCast, if_pos ⟨Z2f (by omega), Z2f (by omega), by omega⟩, Zf, Z1n, ← Zyj]
theorem rofF_eq {r : Int × Int} {z : Rat} (h : ZNc r = some z) : ZTi r = some z := by
  unfold ZNc at h
  cases h
  unfold ZTi Zjb ZCc Z1h; by_cases h0 : r.2 = 0
  · rw [if_pos h0, h0]; rfl
  · have : (r.2 == 0) = false := by simp [h0]
    rw [this, ZK, Zf, if_neg h0, if_neg h0]
theorem Zoo {x : Rat} {z : Int} (h : ZMc x = some z) : Z2i x = some z := by
  unfold ZMc at h
  cases h
  unfold Z2i ZId; rw [Zf]; by_cases h0 : x = 0
  · subst h0; rfl
  · have := ZVj h0; rw [decide_eq_false h0, ZK]; by_cases h1 : x.num < 0
    · rw [decide_eq_true h1, ZL, Int.sign_eq_neg_one_of_neg h1]
    · rw [decide_eq_false h1, ZK, Int.sign_eq_one_of_pos (by omega)]
end Go.Eng
namespace Go.Eng
open Go.RowKit
def ZLl (P : Program) (f : FuncId) (T e : TypeId) : Prop := ∀ (B b : Nat) (bs : List Value) (s : ByteArray) (w : World), Lib.IsBuilder T e B b bs w → bs.length + s.size ≤ 140737488355328 → B ≤ w.heap.size →
  Calls P f #[.pointer (some ⟨b, 0, none⟩), .string s] w fun x w' => x = .returned (.tuple #[.int .i64 s.size, .nilIface]) ∧ (Lib.BuilderAt T e B b (.pointer (some ⟨b, 0, none⟩)) (bs ++ Lib.strCells s) w' ∧ Below B w w')
def Tells (P : Program) (f : FuncId) (T e : TypeId) : Prop := ∀ (B b : Nat) (l : List UInt8) (w : World), Lib.IsBuilder T e B b (Lib.byteCells l) w → B ≤ w.heap.size →
  Calls P f #[.pointer (some ⟨b, 0, none⟩)] w fun x w' => x = .returned (.string ⟨l.toArray⟩) ∧ Below B w w'
structure Bld (T e b : Nat) (w0 : Base) (v : Zd) (m : List UInt8) (w : World) : Prop where
  is : Lib.IsBuilder T e b b (Lib.byteCells m) w
  old : ∀ k o, v k = some o → k < b
  base : w0.wd.heap.size ≤ b
  lt : b ≤ w.heap.size
variable {P : Program} {K : Nat} {w0 : Base} {v0 : Zd} {σ : List (Nat × Value)} {ℓ : List Loc} {v : Zd} {a : Act} {w : World}
variable {ops : Array Oper} {Q : Exit → Act → World → Prop} {rest : List Oper}
theorem St.below {w' : World} {b : Nat} (h : St K w0 v0 σ [] v a w) (x : Below b w w') (hv : ∀ k o, v k = some o → k < b) (hb : w0.wd.heap.size ≤ b) : St K w0 v0 σ [] v a w' :=
  ⟨h.size, h.dfr, h.fr, ⟨x.os.trans h.ext.os, x.tape.trans h.ext.tape, x.output.trans h.ext.output, Nat.le_trans h.ext.size x.size, fun k hk hn => (x.block k (by omega)).trans (h.ext.block k hk hn)⟩,
    ⟨h.vst.le, fun k o e => (x.block k (hv k o e)).trans (h.vst.vin k o e), h.vst.old⟩, fun e he => by simp at he, List.nodup_nil⟩
theorem op_newB {o : Oper} {d T : Nat} (e : Nat) (hS : St K w0 v0 σ ℓ v a w) (hw : Region.wanted o (yielded ops a.tmps) = true) (hd : o.dst = some d) (hK : d < K)
    (hrun : (execOp a.eval o).run P w = .ok (.value (.pointer (some ⟨w.heap.size, 0, none⟩))) (w.alloc (.cells #[.pointer none, .slice none 0 0] T)))
    (h : ∀ b a w, St K w0 v0 ((d, .pointer (some ⟨b, 0, none⟩)) :: σ) [] v a w → Bld T e b w0 v [] w → wpList P ops Q rest a w) : wpList P ops Q (o :: rest) a w :=
  Zze hw (Zcf hrun (by
    rw [hd]
    have h1 : St K w0 v0 σ [] v a w := hS.drop (List.nil_sublist _)
    have h2 : Ext w (w.alloc (.cells #[.pointer none, .slice none 0 0] T)) := Ext.alloc w _
    exact h w.heap.size _ _ ((h1.step h2 (VStep.ext h1.vin h2)).put _ hK) ⟨Lib.fresh_isBuilder T e w, fun k o hk => h1.vin.lt hk, h1.ext.size, h2.size⟩))
theorem Z4q (l l' : List UInt8) : Lib.byteCells l ++ Lib.strCells (Z5 l') = Lib.byteCells (l ++ l') := by simp [Lib.byteCells, Lib.strCells, Z5]
theorem ZZp {o : Oper} {d f T e b : Nat} {m s : List UInt8} (hW : ZLl P f T e) (hB : Bld T e b w0 v m w) (hl : (m ++ s).length ≤ 140737488355328) (hS : St K w0 v0 σ [] v a w) (hw : Region.wanted o (yielded ops a.tmps) = true) (hd : o.dst = some d) (hK : d < K)
    (hrun : (execOp a.eval o).run P w = .ok (.enter f #[.pointer (some ⟨b, 0, none⟩), .string (Z5 s)]) w)
    (h : ∀ a w, St K w0 v0 ((d, .tuple #[.int .i64 s.length, .nilIface]) :: σ) [] v a w → Bld T e b w0 v (m ++ s) w → wpList P ops Q rest a w) : wpList P ops Q (o :: rest) a w := by
  have hc := hW b b (Lib.byteCells m) (Z5 s) w hB.is (by rw [Lib.byteCells_length, ZHd, ← List.length_append]; exact hl) hB.lt; refine Zze hw (ZPf hrun (Calls.mono hc fun x w' ⟨e1, e2, e3⟩ => ⟨_, e1, ?_⟩)); rw [hd]; rw [ZHd] at *; rw [Z4q] at e2; exact h _ _ ((hS.below e3 hB.old hB.base).put _ hK) ⟨.inr e2, hB.old, hB.base, Nat.le_trans hB.lt e3.size⟩
theorem op_tell {o : Oper} {d f T e b : Nat} {m : List UInt8} (hT : Tells P f T e) (hB : Bld T e b w0 v m w) (hS : St K w0 v0 σ [] v a w) (hw : Region.wanted o (yielded ops a.tmps) = true) (hd : o.dst = some d) (hK : d < K)
    (hrun : (execOp a.eval o).run P w = .ok (.enter f #[.pointer (some ⟨b, 0, none⟩)]) w)
    (h : ∀ a w, St K w0 v0 ((d, .string (Z5 m)) :: σ) [] v a w → wpList P ops Q rest a w) : wpList P ops Q (o :: rest) a w := by
  have hc := hT b b m w hB.is hB.lt; refine Zze hw (ZPf hrun (Calls.mono hc fun x w' ⟨e1, e3⟩ => ⟨_, e1, ?_⟩)); rw [hd]; exact h _ _ ((hS.below e3 hB.old hB.base).put _ hK)
def ZMg (l : List UInt8) : Option Unit := if l.length ≤ 140737488355328 then some () else none
theorem ZUp {l : List UInt8} {u : Unit} (h : ZMg l = some u) : l.length ≤ 140737488355328 := by
  unfold ZMg at h; split at h
  · assumption
  · cases h
theorem Zop {q : Option Nat} {b o : Nat} (h : mkA q = some ⟨b, o, none⟩) : q = some b ∧ o = 0 := by
  cases q with
  | none => cases h
  | some c => cases h; exact ⟨rfl, rfl⟩
noncomputable def ZCh (a : Nat) : Option ((List UInt8)) :=
 bnd (bnd (Zaa (fun s : Nat × (List UInt8)=>match s with
 | (e,f) =>
 (ifb (decide ((0 : Int) < (((Zl 4294967296 e)).length : Int)))
 (bnd (ZIe e ((1000000000 : Int))) fun c =>
 bnd (bnd (Zaa (fun s : (List UInt8) × Int × Int=>match s with
 | (d,b,g) =>
 (bnd (ifb (decide (g < (9 : Int)))
 (ifb (decide ((0 : Int) < (((Zl 4294967296 c.1)).length : Int)))
 (some true)
 (some (decide ((0 : Int) < b))))
 (some false))
 (fun (j : Bool) =>
 (ifb (j)
 (bnd (rem .u32 b ((10 : Int))) fun k =>
 bnd (rem .u32 b ((10 : Int))) fun l =>
 bnd (ZFb (([48,49,50,51,52,53,54,55,56,57] : List UInt8)) k (IntKind.u32.wrap (l + ((1 : Int))))) fun h =>
 bnd (Zgc (h ++ d)) fun r =>
 bnd (quo .u32 b ((10 : Int))) fun m =>
 bnd (chk .i64 (g + ((1 : Int)))) fun n =>
 some (.inl (((h ++ d),m,n))))
 (some (.inr d)))))) Zqa ((f,c.2,(0 : Int))))
 (fun (o : (List UInt8)) =>
 (some o)))
 (fun (p : (List UInt8)) =>
 (some (.inl ((c.1,p))))))
 (some (.inr f)))) Zqa ((a,([] : List UInt8))))
 (fun (q : (List UInt8)) =>
 (some q)))
 (fun (i : (List UInt8)) =>
 (ifb (i == (([] : List UInt8)))
 (some (([48] : List UInt8)))
 (some i)))
noncomputable def Z4h (a : Nat) : Option ((List UInt8)) :=
 bnd (bnd (Zaa (fun s : Nat × (List (List UInt8))=>match s with
 | (h,c) =>
 (ifb (decide ((0 : Int) < (((Zl 18446744073709551616 h)).length : Int)))
 (bnd (Zwe h ((10000000000000000000 : Int))) fun d =>
 bnd (Z5f d.2) fun b =>
 bnd (ifb (decide ((0 : Int) < (((Zl 18446744073709551616 d.1)).length : Int)))
 (bnd (chk .i64 (((19 : Int)) - ((b.length : Int)))) fun m =>
 bnd (Zcg (([48] : List UInt8)) m) fun i =>
 bnd (Zgc (i ++ b)) fun r =>
 some ((i ++ b)))
 (some b))
 (fun (j : (List UInt8)) =>
 (bnd (Z5a 16 (c ++ [j])) fun t =>
 some (.inl ((d.1,(c ++ [j])))))))
 (some (.inr c)))) Zqa ((a,([] : (List (List UInt8))))))
 (fun (n : (List (List UInt8))) =>
 (some n)))
 (fun (e : (List (List UInt8))) =>
 (ifb (((e.length : Int)) == ((0 : Int)))
 (some (([48] : List UInt8)))
 (bnd (chk .i64 (((e.length : Int)) - ((1 : Int)))) fun o =>
 bnd (bnd (Zaa (fun s : (List UInt8) × Int=>match s with
 | (f,g) =>
 (ifb (decide ((0 : Int) ≤ g))
 (bnd (idx e g) fun k =>
 bnd (ZMg (f ++ k)) fun u =>
 bnd (chk .i64 (g - ((1 : Int)))) fun p =>
 some (.inl (((f ++ k),p))))
 (some (.inr f)))) Zqa ((([] : List UInt8),o)))
 (fun (q : (List UInt8)) =>
 (some q)))
 (fun (l : (List UInt8)) =>
 (bnd (Zgc l) fun v =>
 some l)))))
noncomputable def Zli (x : Rat) : Option ((List UInt8)) :=
 bnd (ZNf ((x.num).natAbs)) fun a =>
 bnd (ifb (decide (x.num < 0))
 (bnd (Zgc ((([45] : List UInt8)) ++ a)) fun e =>
 some (((([45] : List UInt8)) ++ a)))
 (some a))
 (fun (b : (List UInt8)) =>
 (bnd (ifb (decide ((0 : Int) < (((Zl 18446744073709551616 ((Zkb x.den)))).length : Int)))
 (bnd (ZNf ((Zkb x.den))) fun c =>
 bnd (Zgc ((([47] : List UInt8)) ++ c)) fun f =>
 bnd (Zgc (b ++ (((([47] : List UInt8)) ++ c)))) fun g =>
 some ((b ++ (((([47] : List UInt8)) ++ c)))))
 (some b))
 (fun (d : (List UInt8)) =>
 (some d))))
theorem Z0i (n : Nat) : (ZLa n).length ≤ bl n := by
  induction n using Nat.strongRecOn with
  | ind n ih =>
    by_cases h : n = 0
    · subst h; rw [Zed]; simp
    · rw [ZVe h, List.length_append]; have h1 := ih (n / 10) (by omega); have h2 : bl (n / 10) + 1 ≤ bl n := by
        rw [Zqj h]; exact Nat.add_le_add_right (Zpe (by omega)) 1
      simp only [List.length_cons, List.length_nil]; omega
theorem Zir {n k : Nat} (h : n < 10 ^ k) : (ZLa n).length ≤ k := by
  induction k generalizing n with
  | zero => simp at h; subst h; rw [Zed]; simp
  | succ k ih =>
    by_cases h0 : n = 0
    · subst h0; rw [Zed]; simp
    · rw [ZVe h0, List.length_append]; have := ih (n := n / 10) (by rw [Nat.pow_succ] at h; omega); simp only [List.length_cons, List.length_nil]; omega
theorem ZVq {q : Nat} (hq : q ≠ 0) : ∀ (k r : Nat), r < 10 ^ k → ZLa (q * 10 ^ k + r) = ZLa q ++ (List.replicate (k - (ZLa r).length) 48 ++ ZLa r) := by
  intro k
  induction k with
  | zero => intro r h; simp at h; subst h; rw [Zed]; simp
  | succ k ih =>
    intro r h; rw [Nat.pow_succ] at h; have hn : q * 10 ^ (k + 1) + r ≠ 0 := by
      have : 0 < q * 10 ^ (k + 1) := Nat.mul_pos (by omega) (Nat.pow_pos (by omega)); omega
    have e1 : (q * 10 ^ (k + 1) + r) / 10 = q * 10 ^ k + r / 10 := by rw [Nat.pow_succ, ← Nat.mul_assoc]; generalize q * 10 ^ k = p; omega
    have e2 : (q * 10 ^ (k + 1) + r) % 10 = r % 10 := by rw [Nat.pow_succ, ← Nat.mul_assoc]; generalize q * 10 ^ k = p; omega
    rw [ZVe hn, e1, e2, ih (r / 10) (by omega)]; by_cases h0 : r = 0
    · subst h0; simp only [Nat.zero_div, Zed, List.length_nil, Nat.sub_zero, List.append_nil, List.append_assoc]; congr 1; rw [List.replicate_succ']; rfl
    · rw [ZVe h0, List.length_append]; simp only [List.length_cons, List.length_nil, List.append_assoc]; rw [show k + 1 - ((ZLa (r / 10)).length + (0 + 1)) = k - (ZLa (r / 10)).length by omega]
theorem Zde {l : List UInt8} (h : l.length ≤ 140737488355328) : Zgc l = some () := by unfold Zgc; rw [if_pos (by unfold maxLen; omega)]
theorem Zcp {d : Nat} (h : d < 10) : ZFb ([48, 49, 50, 51, 52, 53, 54, 55, 56, 57] : List UInt8) (d : Int) ((d + 1 : Nat) : Int) = some [UInt8.ofNat (48 + d)] := by
  have : d = 0 ∨ d = 1 ∨ d = 2 ∨ d = 3 ∨ d = 4 ∨ d = 5 ∨ d = 6 ∨ d = 7 ∨ d = 8 ∨ d = 9 := by omega
  rcases this with rfl | rfl | rfl | rfl | rfl | rfl | rfl | rfl | rfl | rfl <;> rfl
theorem quo_u32 {p q : Nat} (hq : 0 < q) (hp : p < 4294967296) : quo .u32 (p : Int) (q : Int) = some ((p / q : Nat) : Int) := by
  unfold quo; rw [if_neg (by omega)]; have e : (p : Int).tdiv (q : Int) = ((p / q : Nat) : Int) := by simp [Int.tdiv_eq_ediv_of_nonneg]
  have h : p / q ≤ p := Nat.div_le_self _ _; generalize p / q = r at *; have h5 : inR .u32 (r : Int) := (show (0 : Int) ≤ (r : Int) ∧ (r : Int) ≤ 4294967295 from ⟨by omega, by omega⟩); rw [e, Zcl h5]
theorem beq_nil {l : List UInt8} : (l == ([] : List UInt8)) = decide (l = []) := by
  cases l <;> rfl
theorem Zrn {n : Nat} : ZLa n = [] ↔ n = 0 := by
  constructor
  · intro h; rcases Nat.eq_zero_or_pos n with h0 | h0
    · exact h0
    · rw [ZVe (by omega)] at h; simp at h
  · rintro rfl; exact Zed
theorem Z8q {a : Nat} (ha : Z9a a) : ZCh a = some (ZAb a) := by
  unfold ZCh; rw [Z2a]; have hbl := Zlk ha; refine Zhb (fun s : Nat × List UInt8 => Z9a s.1 ∧ ZLa s.1 ++ s.2 = ZLa a) (fun s => bl s.1) (fun r : List UInt8 => r = ZLa a) ⟨ha, by simp⟩ (ZVa (by simp only; omega)) ?_ ?_
  · rintro ⟨x, s⟩ ⟨hx, he⟩; simp only at hx he ⊢; rw [Zdl]; by_cases h0 : x = 0
    · right; subst h0; rw [show decide ((0 : Nat) ≠ 0) = false from rfl, ZK]; exact ⟨_, rfl, by rw [← he, Zed]; rfl⟩
    · left; have e1 : ZIe x (1000000000 : Int) = some (x / 1000000000, ((x % 1000000000 : Nat) : Int)) := by
        unfold ZIe; rw [if_pos ⟨by unfold ZRa; unfold Z9a at hx; omega, by omega⟩]; rfl
      rw [decide_eq_true h0, ZL, e1, Zf, Z2a]; have hslen : s.length ≤ 4398046511104 := by
        have := Z0i a; rw [← he, List.length_append] at this; omega
      refine Z1k (s := (s, ((x % 1000000000 : Nat) : Int), (0 : Int))) (fun t : List UInt8 × Int × Int => ∃ r k m : Nat, t.2.1 = (r : Int) ∧ t.2.2 = (k : Int) ∧ k + m = 9 ∧ r < 10 ^ m ∧ r < 1000000000 ∧ ZLa (x / 1000000000 * 10 ^ m + r) ++ t.1 = ZLa a) (fun t => 9 - t.2.2.toNat)
        (fun t : List UInt8 => ZLa (x / 1000000000) ++ t = ZLa a) ⟨x % 1000000000, 0, 9, rfl, rfl, rfl, Nat.mod_lt _ (by decide), Nat.mod_lt _ (by decide), by
          rw [show x / 1000000000 * 10 ^ 9 + x % 1000000000 = x by omega]; exact he⟩ (ZVa (by simp)) ?_ ?_
      · rintro ⟨t, r, k⟩ ⟨r, k, m, rfl, rfl, hk, hr, hr2, hd⟩; simp only at hd ⊢; rw [Zdl]; have htl : t.length ≤ 4398046511104 := by
          have := Z0i a; rw [← hd, List.length_append] at this; omega
        have cond : ifb (decide ((k : Int) < 9)) (ifb (decide (x / 1000000000 ≠ 0)) (some true) (some (decide ((0 : Int) < (r : Int))))) (some false) = some (decide (k < 9 ∧ x / 1000000000 * 10 ^ m + r ≠ 0)) := by
          by_cases h1 : k < 9
          · rw [decide_eq_true (by omega), ZL]; by_cases h2 : x / 1000000000 = 0
            · rw [decide_eq_false (by simp [h2]), ZK, h2]; exact congrArg some (decide_eq_decide.2 (by omega))
            · rw [decide_eq_true h2, ZL]; have : 0 < x / 1000000000 * 10 ^ m := Nat.mul_pos (by omega) (Nat.pow_pos (by omega)); rw [decide_eq_true ⟨h1, by omega⟩]
          · rw [decide_eq_false (by omega), ZK, decide_eq_false (by omega)]
        rw [cond, Zf]; by_cases hc : k < 9 ∧ x / 1000000000 * 10 ^ m + r ≠ 0
        · left; obtain ⟨h1, h2⟩ := hc; obtain ⟨m, rfl⟩ : ∃ j, m = j + 1 := ⟨m - 1, by omega⟩; have c1 : rem .u32 (r : Int) 10 = some ((r % 10 : Nat) : Int) := Zaf (q := 10) (by omega); have c2 : quo .u32 (r : Int) 10 = some ((r / 10 : Nat) : Int) := quo_u32 (q := 10) (by omega) (by omega); have c3 : IntKind.u32.wrap (((r % 10 : Nat) : Int) + 1) = ((r % 10 + 1 : Nat) : Int) := by rw [wrap_u32]; omega
          have c4 : chk .i64 ((k : Int) + 1) = some ((k + 1 : Nat) : Int) := by rw [show (k : Int) + 1 = ((k + 1 : Nat) : Int) by omega, Zgb (by omega)]
          rw [decide_eq_true ⟨h1, h2⟩, ZL, c1, Zf, Zf, c3, Zcp (Nat.mod_lt _ (by omega)), Zf, Zde (by simp; omega), Zf, c2, Zf, c4, Zf]; rw [Nat.pow_succ] at hr; refine ⟨_, rfl, ⟨r / 10, k + 1, m, rfl, rfl, by omega, by omega, by omega, ?_⟩, by simp; omega⟩; simp only; rw [← hd, ZVe h2, List.append_assoc]; have e2 : (x / 1000000000 * 10 ^ (m + 1) + r) / 10 = x / 1000000000 * 10 ^ m + r / 10 := by rw [Nat.pow_succ, ← Nat.mul_assoc]; generalize x / 1000000000 * 10 ^ m = p; omega
          have e3 : (x / 1000000000 * 10 ^ (m + 1) + r) % 10 = r % 10 := by rw [Nat.pow_succ, ← Nat.mul_assoc]; generalize x / 1000000000 * 10 ^ m = p; omega
          rw [e2, e3]
        · right; rw [decide_eq_false hc, ZK]; refine ⟨_, rfl, ?_⟩; rw [← hd]; congr 2; by_cases hm : m = 0
          · subst hm; simp at hr; simp [hr]
          · have h2 : x / 1000000000 * 10 ^ m + r = 0 := by
              rcases Nat.eq_zero_or_pos (x / 1000000000 * 10 ^ m + r) with h | h
              · exact h
              · exact absurd ⟨by omega, by omega⟩ hc
            have h3 : x / 1000000000 * 10 ^ m = 0 := by omega
            rcases Nat.mul_eq_zero.1 h3 with h | h
            · rw [h2, h]
            · exact absurd h (Nat.pos_iff_ne_zero.1 (Nat.pow_pos (by omega)))
      · rintro t ht; rw [Zf]; refine ⟨_, rfl, ⟨ZBk (Nat.div_le_self _ _) hx, ht⟩, ?_⟩; simp only; have := Zqj h0; have h3 : bl (x / 1000000000) ≤ bl (x / 2) := Zpe (by omega); omega
  · rintro r rfl; rw [Zf, beq_nil]; unfold ZAb; by_cases h0 : a = 0
    · subst h0; rw [decide_eq_true Zed, ZL, if_pos rfl]
    · rw [decide_eq_false (fun h => h0 (Zrn.1 h)), ZK, if_neg h0]
theorem ZUn {n : Nat} {z : List UInt8} (h : Zkg n = some z) : ZCh n = some z := by
  unfold Zkg at h; split at h
  · rename_i hh; rw [Z8q hh, h]
  · cases h
theorem Zlr (r : List (List UInt8)) (j : Nat) : ((r.drop j).reverse.flatten).length ≤ r.reverse.flatten.length := by
  have h : r.reverse.flatten = (r.drop j).reverse.flatten ++ (r.take j).reverse.flatten := by
    rw [← List.flatten_append, ← List.reverse_append, List.take_append_drop]
  rw [h, List.length_append]; omega
theorem ZGn (c : UInt8) : ∀ k : Nat, (List.replicate k [c]).flatten = List.replicate k c
  | 0 => rfl
  | k + 1 => by rw [List.replicate_succ, List.flatten_cons, ZGn c k, List.replicate_succ]; rfl
theorem text_eq {a : Nat} (ha : okN a) : Z4h a = some (ZAb a) := by
  unfold Z4h; have hbl := Z0k ha; have hda := Z0i a; rw [Z2a]; refine Zhb (fun s : Nat × List (List UInt8) => okN s.1 ∧ ZLa s.1 ++ s.2.reverse.flatten = ZLa a ∧ bl s.1 + s.2.length ≤ bl a) (fun s => bl s.1) (fun r : List (List UInt8) => r.reverse.flatten = ZLa a ∧ r.length ≤ bl a ∧ (a ≠ 0 → r ≠ [])) ⟨ha, by simp, by simp⟩ (ZVa (by simp only; omega)) ?_ ?_
  · rintro ⟨x, s⟩ ⟨hx, he, hl⟩; simp only at hx he hl ⊢; by_cases h0 : x = 0
    · right; subst h0; rw [Z4a, show decide ((0 : Int) < (([] : List Int).length : Int)) = false from rfl, ZK]; rw [Zed, List.nil_append] at he; refine ⟨_, rfl, he, by omega, fun h1 h2 => ?_⟩; subst h2; exact h1 (Zrn.1 he.symm)
    · left; have hpos := List.length_pos_iff.2 ((Zid (n := x) (B := 18446744073709551616) (by decide)).2 h0); have e1 : Zwe x (10000000000000000000 : Int) = some (x / 10000000000000000000, ((x % 10000000000000000000 : Nat) : Int)) := by
        unfold Zwe; rw [if_pos ⟨hx, by omega⟩]; rfl
      have e2 : Z5f ((x % 10000000000000000000 : Nat) : Int) = some (ZLa (x % 10000000000000000000)) := by unfold Z5f; rw [Int.toNat_natCast]
      rw [decide_eq_true (show (0 : Int) < ((Zl 18446744073709551616 x).length : Int) by omega), ZL, e1, Zf]; simp only; rw [e2, Zf]; have hr : (ZLa (x % 10000000000000000000)).length ≤ 19 := Zir (k := 19) (Nat.mod_lt _ (by decide)); have hb2 : bl (x / 10000000000000000000) + 1 ≤ bl x := by
        rw [Zqj h0]; exact Nat.add_le_add_right (Zpe (by omega)) 1
      have hsplit : ∃ p : List UInt8, ifb (decide ((0 : Int) < ((Zl 18446744073709551616 (x / 10000000000000000000)).length : Int))) (bnd (chk .i64 (19 - ((ZLa (x % 10000000000000000000)).length : Int))) fun y218 => bnd (Zcg [48] y218) fun y220 => bnd (Zgc (y220 ++ ZLa (x % 10000000000000000000))) fun y227 => some (y220 ++ ZLa (x % 10000000000000000000))) (some (ZLa (x % 10000000000000000000))) = some p ∧ ZLa (x / 10000000000000000000) ++ p = ZLa x := by
        by_cases hq : x / 10000000000000000000 = 0
        · refine ⟨_, by rw [hq, Z4a]; rfl, ?_⟩; rw [hq, Zed, List.nil_append]; congr 1; omega
        · have hpos := List.length_pos_iff.2 ((Zid (n := x / 10000000000000000000) (B := 18446744073709551616) (by decide)).2 hq); obtain ⟨k, hk⟩ : ∃ k, k = 19 - (ZLa (x % 10000000000000000000)).length := ⟨_, rfl⟩; have e3 : chk .i64 (19 - ((ZLa (x % 10000000000000000000)).length : Int)) = some (k : Int) := by rw [show (19 - ((ZLa (x % 10000000000000000000)).length : Int)) = (k : Int) by omega, Zgb (by omega)]
          have e4 : Zcg [48] (k : Int) = some (List.replicate k 48) := by
            unfold Zcg; rw [if_pos ⟨by omega, by simp; omega⟩, Int.toNat_natCast, ZGn]
          refine ⟨List.replicate k 48 ++ ZLa (x % 10000000000000000000), ?_, ?_⟩
          · rw [decide_eq_true (by omega), ZL, e3, Zf, e4, Zf, Zde (by simp; omega), Zf]
          · have := ZVq hq 19 (x % 10000000000000000000) (Nat.mod_lt _ (by decide)); rw [show x / 10000000000000000000 * 10 ^ 19 + x % 10000000000000000000 = x by omega] at this; rw [this, hk]
      obtain ⟨p, ep, hp⟩ := hsplit; rw [ep, Zf, ZDe (by simp; omega), Zf]; refine ⟨_, rfl, ⟨ZJk (Nat.div_le_self _ _) hx, ?_, by simp; omega⟩, by simp only; omega⟩; simp only [List.reverse_append, List.reverse_cons, List.reverse_nil, List.nil_append, List.singleton_append, List.flatten_cons]; rw [← List.append_assoc, hp, he]
  · rintro r ⟨hr, hl, hne⟩; rw [Zf]; by_cases h0 : a = 0
    · subst h0; have : r = [] := by
        have := hl; simp [bl] at this; exact this
      subst this; rfl
    · have hne := hne h0; have hpos : 0 < r.length := List.length_pos_iff.2 hne; have e1 : ((r.length : Int) == 0) = false := beq_false_of_ne (by omega); rw [e1, ZK, Zva (by omega) (by omega), Zf, Z2a]; unfold ZAb; rw [if_neg h0]; refine Zhb (fun s : List UInt8 × Int => ∃ k : Nat, s.2 = (k : Int) - 1 ∧ k ≤ r.length ∧ s.1 = (r.drop k).reverse.flatten) (fun s => (s.2 + 1).toNat) (fun t : List UInt8 => t = ZLa a) ⟨r.length, rfl, by omega, by simp⟩ (ZVa (by simp only; omega)) ?_ ?_
      · rintro ⟨s, i⟩ ⟨k, hi, hk, hs⟩; simp only at hi hs ⊢; subst hi hs; by_cases hk0 : k = 0
        · right; subst hk0; rw [show decide ((0 : Int) ≤ ((0 : Nat) : Int) - 1) = false from rfl, ZK]; exact ⟨_, rfl, by rw [List.drop_zero]; exact hr⟩
        · left; obtain ⟨j, rfl⟩ : ∃ j, k = j + 1 := ⟨k - 1, by omega⟩; have ej : ((j + 1 : Nat) : Int) - 1 = (j : Int) := by omega
          have hj : j < r.length := by omega
          have hnew : (r.drop (j + 1)).reverse.flatten ++ r[j] = (r.drop j).reverse.flatten := by
            rw [List.drop_eq_getElem_cons hj, List.reverse_cons, List.flatten_append]; simp
          have hlen : ((r.drop j).reverse.flatten).length ≤ r.reverse.flatten.length := Zlr r j; rw [hr] at hlen; have e2 : ZMg ((r.drop (j + 1)).reverse.flatten ++ r[j]) = some () := by unfold ZMg; rw [if_pos (by rw [hnew]; omega)]
          rw [ej, decide_eq_true (show (0 : Int) ≤ (j : Int) by omega), ZL, Zda hj, Zf, e2, Zf, Zva (by omega) (by omega), Zf]; exact ⟨_, rfl, ⟨j, rfl, by omega, hnew⟩, by simp⟩
      · rintro t rfl; rw [Zf, Zde (by omega), Zf]
theorem Zto {n : Nat} {z : List UInt8} (h : ZNf n = some z) : Z4h n = some z := by
  unfold ZNf at h; split at h
  · rename_i hh; rw [text_eq hh, h]
  · cases h
theorem Zjj {n : Nat} (h : bl n ≤ 4398046511104) : (ZAb n).length ≤ 4398046511104 := by
  unfold ZAb; split
  · simp
  · have := Z0i n; omega
theorem ZYn {x : Rat} {z : List UInt8} (h : Z8d x = some z) : Zli x = some z := by
  unfold Z8d at h; split at h
  · rename_i hh; obtain ⟨h1, h2⟩ := hh
    cases h
    unfold Zli ZNf; have l1 := Zjj (n := x.num.natAbs) (by omega); have l2 := Zjj (n := x.den) (by omega); rw [if_pos (Zpb (by omega)), Zf]; have e1 : ifb (decide (x.num < 0)) (bnd (Zgc ([45] ++ ZAb x.num.natAbs)) fun y80 => some (([45] : List UInt8) ++ ZAb x.num.natAbs)) (some (ZAb x.num.natAbs)) = some ((if x.num < 0 then [45] else []) ++ ZAb x.num.natAbs) := by
      by_cases h : x.num < 0
      · rw [decide_eq_true h, ZL, Zde (by simp; omega), Zf, if_pos h]
      · rw [decide_eq_false h, ZK, if_neg h]; rfl
    rw [e1, Zf]; unfold txtQ; have l3 : ((if x.num < 0 then [45] else []) ++ ZAb x.num.natAbs : List UInt8).length ≤ 4398046511105 := by
      rw [List.length_append]; split <;> simp <;> omega
    generalize ((if x.num < 0 then [45] else []) ++ ZAb x.num.natAbs : List UInt8) = s at *; by_cases hd : x.den = 1
    · rw [hd]; rw [show Zkb 1 = 0 from rfl, Z4a]; simp [ifb, bnd]
    · have e2 : Zkb x.den = x.den := by unfold Zkb; rw [if_neg hd]
      have hpos := List.length_pos_iff.2 ((Zid (n := x.den) (B := 18446744073709551616) (by decide)).2 x.den_nz); rw [e2, decide_eq_true (by omega), ZL, if_pos (Zpb (by omega)), Zf, Zde (by simp; omega), Zf, Zde (by simp; omega), Zf, Zf, if_neg hd]; rfl
  · cases h
theorem ZKq (x : Rat) : 0 ≤ x * x := by
  by_cases h : 0 ≤ x
  · exact Rat.mul_nonneg h h
  · have h2 : 0 ≤ -x := by grind
    have := Rat.mul_nonneg h2 h2; grind
theorem num_pos {q : Rat} : 0 < q.num ↔ 0 < q := by
  have h1 := Rat.num_nonneg (q := q); have h2 := Rat.num_eq_zero (q := q); constructor
  · intro h; have h3 : 0 ≤ q := h1.1 (by omega); have h4 : q ≠ 0 := fun e => by have := h2.2 e; omega
    grind
  · intro h; have h3 : 0 ≤ q.num := h1.2 (by grind); have h4 : q.num ≠ 0 := fun e => by have := h2.1 e; grind
    omega
theorem num_neg {q : Rat} : q.num < 0 ↔ q < 0 := by
  have h1 := Rat.num_nonneg (q := q); constructor
  · intro h; rcases Rat.le_total (a := 0) (b := q) with h3 | h3
    · have := h1.2 h3; omega
    · have h4 : q ≠ 0 := fun e => by subst e; simp at h
      grind
  · intro h; rcases Int.lt_or_le q.num 0 with h3 | h3
    · exact h3
    · have := h1.1 h3; grind
theorem ZLm {q : Rat} : (0 < q.num.sign) ↔ 0 < q := by
  rw [← num_pos]; rcases Int.lt_trichotomy q.num 0 with h | h | h
  · rw [Int.sign_eq_neg_one_of_neg h]; omega
  · rw [h]; simp
  · rw [Int.sign_eq_one_of_pos h]; omega
theorem ZPn {q : Rat} : (q.num.sign < 0) ↔ q < 0 := by
  rw [← num_neg]; rcases Int.lt_trichotomy q.num 0 with h | h | h
  · rw [Int.sign_eq_neg_one_of_neg h]; omega
  · rw [h]; simp
  · rw [Int.sign_eq_one_of_pos h]; omega
theorem ZSl {q : Rat} : (q.num.sign ≤ 0) ↔ q ≤ 0 := by
  have h := ZLm (q := q); constructor
  · intro h1; rcases Rat.le_total (a := q) (b := 0) with h2 | h2
    · exact h2
    · by_cases h3 : q = 0
      · grind
      · have := h.2 (by grind); omega
  · intro h1; rcases Int.lt_or_le 0 q.num.sign with h2 | h2
    · have := h.1 h2; grind
    · exact h2
def sz (k : Nat) (x : Rat) : Prop := bl x.num.natAbs ≤ k ∧ bl x.den ≤ k
theorem sz.mono {k m : Nat} {x : Rat} (h : sz k x) (hk : k ≤ m) : sz m x := ⟨by have := h.1; omega, by have := h.2; omega⟩
theorem sz.ok {k : Nat} {x : Rat} (h : sz k x) (hk : k ≤ 1099511627776) : okQ x := ⟨by have := h.1; omega, by have := h.2; omega⟩
theorem sz.sm {k : Nat} {x : Rat} (h : sz k x) (hk : k ≤ 68719476736) : smQ x := ⟨by have := h.1; omega, by have := h.2; omega⟩
theorem Zsf {k m : Nat} {x y : Rat} (h : sz k x) (h' : sz m y) : sz (k + m + 1) (x + y) := by
  have := ZUl x y; obtain ⟨a, b⟩ := h; obtain ⟨c, d⟩ := h'; exact ⟨by omega, by omega⟩
theorem ZXf {k m : Nat} {x y : Rat} (h : sz k x) (h' : sz m y) : sz (k + m + 1) (x - y) := by
  have := Z7n x y; obtain ⟨a, b⟩ := h; obtain ⟨c, d⟩ := h'; exact ⟨by omega, by omega⟩
theorem ZGc {k m : Nat} {x y : Rat} (h : sz k x) (h' : sz m y) : sz (k + m) (x * y) := by
  have := Zep x y; obtain ⟨a, b⟩ := h; obtain ⟨c, d⟩ := h'; exact ⟨by omega, by omega⟩
theorem Z4i {k m : Nat} {x y : Rat} (h : sz k x) (h' : sz m y) : sz (k + m + 1) (x / y) := by
  have := Zzo (x := x) (y := y); obtain ⟨a, b⟩ := h; obtain ⟨c, d⟩ := h'; exact ⟨by omega, by omega⟩
theorem sz_neg {k : Nat} {x : Rat} (h : sz k x) : sz k (-x) := by
  obtain ⟨a, b⟩ := h; have := ZIi x; exact ⟨by rw [this.1]; exact a, by rw [this.2]; exact b⟩
theorem ZKi {n : Int} (h : -9223372036854775808 ≤ n ∧ n ≤ 9223372036854775807) : sz 64 (n : Rat) := by
  have h2 := Zxq n; have h3 : bl n.natAbs ≤ 64 := ZBc (show n.natAbs < 2 ^ 64 by omega); exact ⟨by omega, by omega⟩
def i64 (r : Int × Int) : Prop := (-9223372036854775808 ≤ r.1 ∧ r.1 ≤ 9223372036854775807) ∧ (-9223372036854775808 ≤ r.2 ∧ r.2 ≤ 9223372036854775807)
theorem Zef {r : Int × Int} (h : i64 r) : sz 64 (Zjb r) := by
  unfold Zjb; by_cases h0 : r.2 = 0
  · rw [if_pos h0]; exact ZKi h.1
  · rw [if_neg h0, Zyj]; obtain ⟨⟨a, b⟩, c, d⟩ := h; rcases Zxj (if r.2 < 0 then -r.1 else r.1) r.2.natAbs with ⟨h1, h2⟩ | h1
    · have h3 : bl (if r.2 < 0 then -r.1 else r.1).natAbs ≤ 64 := ZBc (show _ < 2 ^ 64 by split <;> omega); have h4 : bl r.2.natAbs ≤ 64 := ZBc (show _ < 2 ^ 64 by omega); exact ⟨by omega, by omega⟩
    · omega
theorem ZDk {k m : Nat} {x y : Rat} (h : sz k x) (h' : sz m y) (hk : k + m ≤ 1000000000) : ZBd x y = some (x + y) := by unfold ZBd; rw [if_pos ⟨h.ok (by omega), h'.ok (by omega)⟩]
theorem Z9m {k m : Nat} {x y : Rat} (h : sz k x) (h' : sz m y) (hk : k + m ≤ 1000000000) : Zjd x y = some (x - y) := by unfold Zjd; rw [if_pos ⟨h.ok (by omega), h'.ok (by omega)⟩]
theorem ZEi {k m : Nat} {x y : Rat} (h : sz k x) (h' : sz m y) (hk : k + m ≤ 1000000000) : Zfe x y = some (x * y) := by unfold Zfe; rw [if_pos ⟨h.ok (by omega), h'.ok (by omega)⟩]
theorem ZHj {k m : Nat} {x y : Rat} (h : sz k x) (h' : sz m y) (hk : k + m ≤ 1000000000) (hy : y ≠ 0) : ZVd x y = some (x / y, 0) := by unfold ZVd; rw [if_pos ⟨h.ok (by omega), h'.ok (by omega)⟩, if_neg hy]
theorem ZGk {k m : Nat} {x y : Rat} (h : sz k x) (h' : sz m y) (hk : k + m ≤ 1000000000) : Z0d x y = some (x - y).num.sign := by unfold Z0d; rw [if_pos ⟨h.ok (by omega), h'.ok (by omega)⟩]
def decG : Nat → Nat → List UInt8
  | 0, _ => []
  | k + 1, n => if n = 0 then [] else decG k (n / 10) ++ [UInt8.ofNat (48 + n % 10)]
theorem Zil : ∀ (k n : Nat), n ≤ k → decG k n = ZLa n
  | 0, n, h => by
    have : n = 0 := by omega
    subst this; rw [Zed]; rfl
  | k + 1, n, h => by
    by_cases h0 : n = 0
    · subst h0; rw [Zed]; rfl
    · rw [ZVe h0, decG, if_neg h0, Zil k (n / 10) (by omega)]
def txtG (x : Rat) : List UInt8 := (if x.num < 0 then [45] else []) ++ (if x.num.natAbs = 0 then [48] else decG x.num.natAbs x.num.natAbs) ++ (if x.den = 1 then [] else 47 :: (if x.den = 0 then [48] else decG x.den x.den))
theorem txtG_eq : txtG = txtQ := by
  funext x
  unfold txtG txtQ ZAb; rw [Zil _ _ (Nat.le_refl _), Zil _ _ (Nat.le_refl _)]
def ZUm (x : Rat) : Option (List UInt8) := if okQ x then some (txtG x) else none
theorem ZPp : Z8d = ZUm := by
  funext x
  unfold Z8d ZUm; rw [txtG_eq]
noncomputable def Zkk (p : (Rat × Rat)) (t : Rat) : Option (Bool) :=
 bnd (Z0d p.2 t) fun a =>
 some (decide ((0 : Int) ≤ a))
noncomputable def ZKk (l : (List (Rat × Rat))) (g : Rat) : Option (Int) :=
 bnd (bnd (Zaa (fun s : Int=>match s with
 | a =>
 (ifb (decide (a < (l.length : Int)))
 (bnd (idx l a) fun b =>
 bnd (Zkk ((b.1,b.2)) g) fun c =>
 ifb (c)
 (some (.inr ((.inl a))))
 (bnd (chk .i64 (a + ((1 : Int)))) fun d =>
 some (.inl d)))
 (some (.inr ((.inr (()))))))) Zqa ((0 : Int)))
 (fun (p : (Int) ⊕ (Unit))=>match p with
 | .inl e =>
 (some ((.inr e)))
 | .inr (()) =>
 (some ((.inl (()))))))
 (fun (p : (Unit) ⊕ (Int))=>match p with
 | .inl (()) =>
 (some ((-1 : Int)))
 | .inr f =>
 (some f))
noncomputable def ZMk (p : (Rat × Rat)) (q : (Rat × Rat)) : Option (Rat) :=
 bnd (bnd (Zjd q.2 p.2) fun a =>
 bnd (Zjd q.1 p.1) fun b =>
 bnd (ZVd a b) fun c =>
 some c.1)
 (fun (d : Rat) =>
 (some d))
noncomputable def ZEk (l : (List (Rat × Rat))) (t : Rat) : Option (Rat × Int) :=
 bnd (ZKk l t) fun a =>
 ifb (decide (a < (0 : Int)))
 (some (((0 : Rat),(5 : Int))))
 (ifb (a == ((0 : Int)))
 (bnd (idx l ((0 : Int))) fun d =>
 some ((d.1,(0 : Int))))
 (bnd (chk .i64 (a - ((1 : Int)))) fun e =>
 bnd (idx l e) fun b =>
 bnd (bnd (Zjd t b.2) fun f =>
 bnd (idx l a) fun c =>
 bnd (ZMk ((b.1,b.2)) ((c.1,c.2))) fun g =>
 bnd (ZVd f g) fun h =>
 some h.1)
 (fun (i : Rat) =>
 (bnd (ZBd b.1 i) fun j =>
 some ((j,(0 : Int)))))))
noncomputable def ZDi (fv : Nat) : Option (Nat) :=
 some ((ZVc .u64 ((fv : Int)) ((9223372036854775808 : Int))).toNat)
noncomputable def ZJi (x : Nat) : Option (Nat × Int) :=
 bnd (ZDi x) fun a =>
 ifb (fLt .f64 a ((4503599627370496 : Nat)))
 (bnd (fMul .f64 x ((4841369599423283200 : Nat))) fun b =>
 some ((b,(-52 : Int))))
 (some ((x,(0 : Int))))
noncomputable def Zih (fv : Nat) (sign : Int) : Option (Bool) :=
 bnd (ifb (sign == ((0 : Int)))
 (bnd (ZDi fv) fun a =>
 some a)
 (bnd (ifb (decide (sign < (0 : Int)))
 (bnd (fNeg .f64 fv) fun b =>
 some b)
 (some fv))
 (fun (c : Nat) =>
 (some c))))
 (fun (d : Nat) =>
 (some (fGt .f64 d ((9218868437227405311 : Nat)))))
noncomputable def Z8g (fv : Nat) : Option (Bool) :=
 some (fNe .f64 fv fv)
noncomputable def ZWk (fv : Nat) : Option (Nat × Int) :=
 ifb (fEq .f64 fv ((0 : Nat)))
 (some ((fv,(0 : Int))))
 (bnd (bnd (Zih fv ((0 : Int))) fun b =>
 ifb (b)
 (some true)
 (bnd (Z8g fv) fun c =>
 some c))
 (fun (d : Bool) =>
 (ifb (d)
 (some ((fv,(0 : Int))))
 (bnd (ZJi fv) fun a =>
 bnd (ZKa .u64 ((a.1 : Int)) ((52 : Int))) fun e =>
 bnd (chk .i64 ((IntKind.i64.wrap (ZUa .u64 e ((2047 : Int)))) - ((1023 : Int)))) fun f =>
 bnd (chk .i64 (f + ((1 : Int)))) fun g =>
 bnd (chk .i64 (a.2 + g)) fun h =>
 some (((orI .u64 (ZVc .u64 ((a.1 : Int)) ((9218868437227405312 : Int))) ((4602678819172646912 : Int))).toNat,h))))))
noncomputable def Zhk (fv : Nat) : Option (Nat × Int) :=
 bnd (ZWk fv) fun a =>
 some ((a.1,a.2))
noncomputable def Z3j (fv : Nat) (sign : Nat) : Option (Nat) :=
 some ((orI .u64 (ZVc .u64 ((fv : Int)) ((9223372036854775808 : Int))) (ZUa .u64 ((sign : Int)) ((9223372036854775808 : Int)))).toNat)
noncomputable def Zuj (sign : Int) : Option (Nat) :=
 bnd (ifb (decide ((0 : Int) ≤ sign))
 (some ((9218868437227405312 : Int)))
 (some ((18442240474082181120 : Int))))
 (fun (a : Int) =>
 (some a.toNat))
noncomputable def ZNk (frac : Nat) (ex : Int) : Option (Nat) :=
 ifb (fEq .f64 frac ((0 : Nat)))
 (some frac)
 (bnd (bnd (Zih frac ((0 : Int))) fun c =>
 ifb (c)
 (some true)
 (bnd (Z8g frac) fun d =>
 some d))
 (fun (e : Bool) =>
 (ifb (e)
 (some frac)
 (bnd (ZJi frac) fun a =>
 bnd (chk .i64 (ex + a.2)) fun f =>
 bnd (ZKa .u64 ((a.1 : Int)) ((52 : Int))) fun g =>
 bnd (chk .i64 ((ZUa .i64 (IntKind.i64.wrap g) ((2047 : Int))) - ((1023 : Int)))) fun h =>
 bnd (chk .i64 (f + h)) fun b =>
 ifb (decide (b < (-1075 : Int)))
 (bnd (Z3j ((0 : Nat)) a.1) fun i =>
 some i)
 (ifb (decide ((1023 : Int) < b))
 (ifb (fLt .f64 a.1 ((0 : Nat)))
 (bnd (Zuj ((-1 : Int))) fun j =>
 some j)
 (bnd (Zuj ((1 : Int))) fun k =>
 some k))
 (bnd (ifb (decide (b < (-1022 : Int)))
 (bnd (chk .i64 (b + ((53 : Int)))) fun l =>
 some ((l,(4368491638549381120 : Nat))))
 (some ((b,(4607182418800017408 : Nat)))))
 (fun (p : Int × Nat)=>match p with
 | (m,n) =>
 (bnd (chk .i64 (m + ((1023 : Int)))) fun o =>
 bnd (ZRb .u64 (IntKind.u64.wrap o) ((52 : Int))) fun q =>
 bnd (fMul .f64 n ((orI .u64 (ZVc .u64 ((a.1 : Int)) ((9218868437227405312 : Int))) q).toNat)) fun r =>
 some r))))))))
noncomputable def ZLk (frac : Nat) (ex : Int) : Option (Nat) :=
 bnd (ZNk frac ex) fun a =>
 some a
noncomputable def Zvk (fv : Nat) : Option (Rat × Int) :=
 bnd (bnd (Z8g fv) fun d =>
 ifb (d)
 (some true)
 (bnd (Zih fv ((0 : Int))) fun e =>
 some e))
 (fun (f : Bool) =>
 (ifb (f)
 (some (((0 : Rat),(1 : Int))))
 (bnd (Zhk fv) fun c =>
 bnd (ZLk c.1 ((53 : Int))) fun g =>
 bnd (ZYh .f64 .i64 g) fun h =>
 bnd (ofF h) fun a =>
 bnd (chk .i64 (c.2 - ((53 : Int)))) fun b =>
 ifb (decide ((0 : Int) ≤ b))
 (bnd (ZAd a.natAbs b) fun i =>
 bnd (Z5b (decide (a < 0)) i) fun j =>
 bnd (ZXe j ((0 : Nat))) fun k =>
 some ((k,(0 : Int))))
 (bnd (Z5c ((1 : Int))) fun l =>
 bnd (ZAd l (IntKind.i64.wrap (-b))) fun m =>
 bnd (Zpd a m) fun n =>
 some ((n,(0 : Int)))))))
noncomputable def ZLj (fv : Nat) : Option (Rat × Int) :=
 bnd (Zah .f32 .f64 fv) fun b =>
 bnd (Zvk b) fun a =>
 some ((a.1,a.2))
noncomputable def Zpk (l : (List (Nat × Nat))) : Option ((List (Rat × Rat)) × Int) :=
 bnd (ifb (decide ((l.length : Int) < (2 : Int)))
 (some true)
 (some (decide ((1000 : Int) < (l.length : Int)))))
 (fun (h : Bool) =>
 (ifb (h)
 (some ((([] : (List (Rat × Rat))),(4 : Int))))
 (bnd (bnd (Zaa (fun s : (List (Rat × Rat)) × Int × Int=>match s with
 | (c,a,e) =>
 (ifb (decide (a < (l.length : Int)))
 (bnd (idx l a) fun f =>
 bnd (ZLj f.1) fun b =>
 bnd (ZLj f.2) fun d =>
 bnd (ifb (b.2 != ((0 : Int)))
 (some true)
 (ifb (d.2 != ((0 : Int)))
 (some true)
 (bnd (Zxc b.1) fun i =>
 some (decide (i < (0 : Int))))))
 (fun (j : Bool) =>
 (ifb (j)
 (some (.inr ((.inl ((([] : (List (Rat × Rat))),(1 : Int)))))))
 (bnd (ifb (decide ((0 : Int) < a))
 (bnd (chk .i64 (a - ((1 : Int)))) fun k =>
 bnd (idx c k) fun m =>
 bnd (Z0d b.1 m.1) fun n =>
 some (decide (n ≤ (0 : Int))))
 (some false))
 (fun (o : Bool) =>
 (ifb (o)
 (some (.inr ((.inl ((([] : (List (Rat × Rat))),(7 : Int)))))))
 (bnd (Z5a 112 (c ++ [(b.1,d.1)])) fun D =>
 bnd (idx ((c ++ [(b.1,d.1)])) e) fun q =>
 bnd (Z0d d.1 q.2) fun r =>
 bnd (ifb (decide (r < (0 : Int)))
 (some a)
 (some e))
 (fun (t : Int) =>
 (bnd (chk .i64 (a + ((1 : Int)))) fun u =>
 some (.inl (((c ++ [(b.1,d.1)]),u,t))))))))))))
 (some (.inr ((.inr ((c,e)))))))) Zqa ((([] : (List (Rat × Rat))),(0 : Int),(0 : Int))))
 (fun (p : ((List (Rat × Rat)) × Int) ⊕ ((List (Rat × Rat)) × Int))=>match p with
 | .inl ((v,w)) =>
 (some ((.inr ((v,w)))))
 | .inr ((x,y)) =>
 (some ((.inl ((x,y)))))))
 (fun (p : ((List (Rat × Rat)) × Int) ⊕ ((List (Rat × Rat)) × Int))=>match p with
 | .inl ((g,z)) =>
 (bnd (ZFb g z ((g.length : Int))) fun A =>
 some ((A,(0 : Int))))
 | .inr ((B,C)) =>
 (some ((B,C)))))))
noncomputable def ZRk (l : (List (Nat × Nat))) (t : Rat) : Option (Rat × Int) :=
 bnd (Zpk l) fun a =>
 ifb (a.2 != ((0 : Int)))
 (some (((0 : Rat),a.2)))
 (bnd (ZEk a.1 t) fun b =>
 some ((b.1,b.2)))
noncomputable def ZYf (r : (Rat × (List (Rat × Rat)))) : Option (Int) :=
 ifb (decide ((10 : Int) < (r.2.length : Int)))
 (some ((4 : Int)))
 (bnd (Zxc r.1) fun c =>
 ifb (decide (c < (0 : Int)))
 (some ((1 : Int)))
 (bnd (bnd (Zaa (fun s : Int=>match s with
 | a =>
 (ifb (decide (a < (r.2.length : Int)))
 (bnd (idx r.2 a) fun b =>
 bnd (bnd (Zxc b.1) fun d =>
 ifb (decide (d < (0 : Int)))
 (some true)
 (bnd (Zxc b.2) fun e =>
 some (decide (e ≤ (0 : Int)))))
 (fun (f : Bool) =>
 (ifb (f)
 (some (.inr ((.inl ((1 : Int))))))
 (bnd (ifb (decide ((0 : Int) < a))
 (bnd (chk .i64 (a - ((1 : Int)))) fun g =>
 bnd (idx r.2 g) fun h =>
 bnd (Z0d b.2 h.2) fun i =>
 some (decide (i ≤ (0 : Int))))
 (some false))
 (fun (j : Bool) =>
 (ifb (j)
 (some (.inr ((.inl ((7 : Int))))))
 (bnd (chk .i64 (a + ((1 : Int)))) fun k =>
 some (.inl k))))))))
 (some (.inr ((.inr (()))))))) Zqa ((0 : Int)))
 (fun (p : (Int) ⊕ (Unit))=>match p with
 | .inl l =>
 (some ((.inr l)))
 | .inr (()) =>
 (some ((.inl (()))))))
 (fun (p : (Unit) ⊕ (Int))=>match p with
 | .inl (()) =>
 (some ((0 : Int)))
 | .inr m =>
 (some m))))
noncomputable def ZDh (t : Rat) (fw : Rat) : Option (Rat × Rat) :=
 bnd (Zfe fw t) fun a =>
 bnd (Zfe a a) fun b =>
 bnd (bnd (Znd ((1 : Int))) fun d =>
 bnd (ZBd b d) fun e =>
 some e)
 (fun (c : Rat) =>
 (bnd (ZVd b c) fun f =>
 bnd (ZVd a c) fun g =>
 some ((f.1,g.1))))
noncomputable def Zug (r : (Rat × (List (Rat × Rat)))) (fw : Rat) : Option (Rat × Rat) :=
 bnd (bnd (Zaa (fun s : Rat × Rat × Int=>match s with
 | (c,d,a) =>
 (ifb (decide (a < (r.2.length : Int)))
 (bnd (idx r.2 a) fun b =>
 bnd (ZDh b.2 fw) fun e =>
 bnd (Zfe e.1 b.1) fun f =>
 bnd (ZBd c f) fun g =>
 bnd (Zfe e.2 b.1) fun h =>
 bnd (ZBd d h) fun i =>
 bnd (chk .i64 (a + ((1 : Int)))) fun j =>
 some (.inl ((g,i,j))))
 (some (.inr ((c,d)))))) Zqa ((r.1,(0 : Rat),(0 : Int))))
 (fun (p : Rat × Rat)=>match p with
 | (k,l) =>
 (some ((k,l)))))
 (fun (p : Rat × Rat)=>match p with
 | (m,n) =>
 (some ((m,n))))
noncomputable def Z3g (r : (Rat × (List (Rat × Rat)))) (fw : Rat) : Option (Rat × Rat × Int) :=
 bnd (ZYf ((r.1,r.2))) fun a =>
 ifb (a != ((0 : Int)))
 (some (((0 : Rat),(0 : Rat),a)))
 (bnd (Zxc fw) fun c =>
 ifb (decide (c < (0 : Int)))
 (some (((0 : Rat),(0 : Rat),(1 : Int))))
 (bnd (Zug ((r.1,r.2)) fw) fun b =>
 some ((b.1,b.2,(0 : Int)))))
noncomputable def ZWe  : Option (Bool) :=
 bnd (Znd ((1 : Int))) fun c =>
 bnd (Znd ((2 : Int))) fun d =>
 bnd (Znd ((1 : Int))) fun e =>
 bnd (Znd ((1 : Int))) fun f =>
 bnd (Z3g ((c,[(d,e)])) f) fun a =>
 bnd (Znd ((4 : Int))) fun g =>
 bnd (ZRk ([((0 : Nat),(1084227584 : Nat)),((1092616192 : Nat),(1073741824 : Nat)),((1101004800 : Nat),(1073741824 : Nat)),((1106247680 : Nat),(1092616192 : Nat))]) g) fun b =>
 bnd (ifb (a.2.2 == ((0 : Int)))
 (ifb (b.2 == ((0 : Int)))
 (bnd (Z8d a.1) fun h =>
 ifb (h == (([50] : List UInt8)))
 (bnd (Z8d a.2.1) fun i =>
 ifb (i == (([49] : List UInt8)))
 (bnd (Z8d b.1) fun j =>
 some (j == (([52,53,47,50] : List UInt8))))
 (some false))
 (some false))
 (some false))
 (some false))
 (fun (k : Bool) =>
 (some k))
set_option maxRecDepth 100000 in
theorem Zfo : ZWe = some true := by
  unfold ZWe; rw [ZPp]; decide +kernel
theorem Zvb {α β : Type} {x : Option α} {y : α} {f : α → Option β} {z : Option β} (h : x = some y) (h2 : f y = z) : bnd x f = z := by subst h; rw [Zf]; exact h2
theorem ZKf {S R : Type} {body : S → Option (S ⊕ R)} {s : S} {r : R} (st : Nat → S) (n : Nat) (h0 : st 0 = s) (hn : n < 2 ^ 64) (h : ∀ k, k < n → body (st k) = some (.inl (st (k + 1)))) (he : body (st n) = some (.inr r)) : Zaa body Zqa s = some r := by
  have key : ∀ m f k, k + m = n → m < f → Zaa body f (st k) = some r := by
    intro m
    induction m with
    | zero =>
      intro f k hk hf; obtain ⟨f, rfl⟩ : ∃ g, f = g + 1 := ⟨f - 1, by omega⟩; obtain rfl : k = n := by omega
      unfold Zaa; rw [he, Zf]
    | succ m ih =>
      intro f k hk hf; obtain ⟨f, rfl⟩ : ∃ g, f = g + 1 := ⟨f - 1, by omega⟩; unfold Zaa; rw [h k (by omega), Zf]; exact ih f (k + 1) (by omega) (by omega)
  rw [← h0]; exact key n Zqa 0 (by omega) (ZVa (by omega))
def ent (t : List (List Int)) (i k : Nat) : Int := (t.getD i []).getD k 0
def upd (l : List Int) (i : Nat) (x : Int) : List Int := l.set i (l.getD i 0 + x)
theorem ZJc {α : Type} {l : List α} {i : Nat} {d : α} (h : i < l.length) : l.getD i d = l[i] := by rw [List.getD_eq_getElem?_getD, List.getElem?_eq_getElem h]; rfl
def rcF (t : List (List Int)) (i k : Nat) (p : List Int × List Int) : List Int × List Int := (upd p.1 i (ent t i k), upd p.2 k (ent t i k))
def RC (n : Nat) (B : Int) (p : List Int × List Int) : Prop := p.1.length = n ∧ p.2.length = n ∧ (∀ x ∈ p.1, 0 ≤ x ∧ x ≤ B) ∧ (∀ x ∈ p.2, 0 ≤ x ∧ x ≤ B)
theorem RC.at1 {n : Nat} {B : Int} {p : List Int × List Int} (h : RC n B p) {i : Nat} (hi : i < n) : ∃ hh : i < p.1.length, 0 ≤ p.1[i] ∧ p.1[i] ≤ B ∧ p.1.getD i 0 = p.1[i] := by
  have h1 : i < p.1.length := by rw [h.1]; exact hi
  exact ⟨h1, (h.2.2.1 _ (List.getElem_mem h1)).1, (h.2.2.1 _ (List.getElem_mem h1)).2, ZJc h1⟩
theorem RC.at2 {n : Nat} {B : Int} {p : List Int × List Int} (h : RC n B p) {i : Nat} (hi : i < n) : ∃ hh : i < p.2.length, 0 ≤ p.2[i] ∧ p.2[i] ≤ B ∧ p.2.getD i 0 = p.2[i] := by
  have h1 : i < p.2.length := by rw [h.2.1]; exact hi
  exact ⟨h1, (h.2.2.2 _ (List.getElem_mem h1)).1, (h.2.2.2 _ (List.getElem_mem h1)).2, ZJc h1⟩
theorem Zam {l : List Int} {i : Nat} {x B : Int} (hx : 0 ≤ x ∧ x ≤ 1000000) (hi : i < l.length) (h : ∀ y ∈ l, 0 ≤ y ∧ y ≤ B) : ∀ y ∈ upd l i x, 0 ≤ y ∧ y ≤ B + 1000000 := by
  intro y hy; unfold upd at hy; have h2 := h _ (List.getElem_mem hi); rcases List.mem_or_eq_of_mem_set hy with h1 | h1
  · have := h y h1; omega
  · rw [ZJc hi] at h1; omega
structure Good (t : List (List Int)) : Prop where
  n0 : 0 < t.length
  n8 : t.length ≤ 8
  sq : ∀ i, (h : i < t.length) → t[i].length = t.length
  ok : ∀ i k, i < t.length → k < t.length → 0 ≤ ent t i k ∧ ent t i k ≤ 1000000
theorem RC.step {t : List (List Int)} (g : Good t) {B : Int} {p : List Int × List Int} {i k : Nat} (hi : i < t.length) (hk : k < t.length) (h : RC t.length B p) : RC t.length (B + 1000000) (rcF t i k p) :=
  ⟨by simp [rcF, upd, h.1], by simp [rcF, upd, h.2.1], Zam (g.ok i k hi hk) (by rw [h.1]; exact hi) h.2.2.1, Zam (g.ok i k hi hk) (by rw [h.2.1]; exact hk) h.2.2.2⟩
theorem RC.mono {n : Nat} {B C : Int} {p : List Int × List Int} (h : RC n B p) (hB : B ≤ C) : RC n C p :=
  ⟨h.1, h.2.1, fun x hx => by have := h.2.2.1 x hx; omega, fun x hx => by have := h.2.2.2 x hx; omega⟩
def pqF (t : List (List Int)) (w : Nat → Nat → Rat) (p : List Int × List Int) (i k : Nat) (s : Rat × Rat) : Rat × Rat :=
  (s.1 + w i k * ((ent t i k : Int) : Rat), s.2 + w i k * ((p.1.getD i 0 : Int) : Rat) * ((p.2.getD k 0 : Int) : Rat))
def SZ (k : Nat) (s : Rat × Rat) : Prop := sz k s.1 ∧ sz k s.2
theorem SZ.mono {k m : Nat} {s : Rat × Rat} (h : SZ k s) (hk : k ≤ m) : SZ m s := ⟨h.1.mono hk, h.2.mono hk⟩
theorem Zvm : sz 1 (0 : Rat) := by constructor <;> decide
section
variable {t : List (List Int)} {w : Nat → Nat → Rat} {p : List Int × List Int}
theorem SZ.step (g : Good t) (hw : ∀ i k, i < t.length → k < t.length → sz 200 (w i k)) (hp : RC t.length 64000000 p) {i k c : Nat} {s : Rat × Rat} (hi : i < t.length) (hk : k < t.length) (h : SZ c s) : SZ (c + 400) (pqF t w p i k s) := by
  have e := g.ok i k hi hk; obtain ⟨_, a1, a2, a3⟩ := hp.at1 hi; obtain ⟨_, b1, b2, b3⟩ := hp.at2 hk; refine ⟨(Zsf h.1 (ZGc (hw i k hi hk) (ZKi (n := ent t i k) (by omega)))).mono (by omega), (Zsf h.2 (ZGc (ZGc (hw i k hi hk) (ZKi (n := p.1.getD i 0) (by omega))) (ZKi (n := p.2.getD k 0) (by omega)))).mono (by omega)⟩
end
set_option maxRecDepth 100000
noncomputable def Z7h (x : Rat) : Option (Rat) :=
 bnd (Zyc x) fun a =>
 bnd (ZZb (!(decide (x.num < 0))) x.num.natAbs a) fun b =>
 some b
noncomputable def ZKg (x : Rat) (y : Rat) : Option (Rat) :=
 bnd (Zyc x) fun a =>
 bnd (Zyc y) fun b =>
 bnd (Zdb x.num.natAbs b) fun c =>
 bnd (Zdb y.num.natAbs a) fun d =>
 ifb ((decide (x.num < 0)) == (decide (y.num < 0)))
 (bnd (Z0f c d) fun e =>
 bnd (Zdb a b) fun f =>
 bnd (ZZb (decide (x.num < 0)) e f) fun g =>
 some g)
 (bnd (ZEd c d) fun h =>
 ifb (decide ((0 : Int) ≤ h))
 (bnd (ZHc c d) fun i =>
 bnd (Zdb a b) fun j =>
 bnd (ZZb (decide (x.num < 0)) i j) fun k =>
 some k)
 (bnd (ZHc d c) fun l =>
 bnd (Zdb a b) fun m =>
 bnd (ZZb (decide (y.num < 0)) l m) fun n =>
 some n))
noncomputable def ZRj (x : Rat) (y : Rat) : Option (Rat) :=
 bnd (Z7e y) fun a =>
 bnd (ZSd x a) fun b =>
 some b
noncomputable def ZYj (x : Rat) (y : Rat) : Option (Rat) :=
 bnd (Zdb x.num.natAbs y.num.natAbs) fun a =>
 bnd (Zyc x) fun b =>
 bnd (Zyc y) fun c =>
 bnd (Zdb b c) fun d =>
 bnd (ZZb ((decide (x.num < 0)) != (decide (y.num < 0))) a d) fun e =>
 some e
noncomputable def Zwj (x : Rat) (y : Rat) : Option (Rat × Int) :=
 bnd (ZId y) fun a =>
 ifb (a)
 (bnd (ZCc ((0 : Int))) fun b =>
 some ((b,(3 : Int))))
 (bnd (Zyc y) fun c =>
 bnd (Zdb x.num.natAbs c) fun d =>
 bnd (Zyc x) fun e =>
 bnd (Zdb e y.num.natAbs) fun f =>
 bnd (ZZb ((decide (x.num < 0)) != (decide (y.num < 0))) d f) fun g =>
 some ((g,(0 : Int))))
noncomputable def ZTj (x : Rat) (y : Rat) : Option (Rat) :=
 bnd (Z3h x y) fun a =>
 some a.1
noncomputable def Zpi (x : Rat) (y : Rat) : Option (Int) :=
 bnd (Zle x y) fun a =>
 bnd (ZMc a) fun b =>
 some b
noncomputable def Zgj (x : Rat) : Option ((List UInt8)) :=
 bnd (Zkg x.num.natAbs) fun b =>
 bnd (ifb (decide (x.num < 0))
 (bnd (ZId x) fun d =>
 some (!(d)))
 (some false))
 (fun (e : Bool) =>
 (bnd (ifb (e)
 (bnd (Zgc ((([45] : List UInt8)) ++ b)) fun j =>
 some (((([45] : List UInt8)) ++ b)))
 (some b))
 (fun (a : (List UInt8)) =>
 (bnd (Zyc x) fun f =>
 bnd (Z2c ([(1 : Int)])) fun g =>
 bnd (ZEd f g) fun h =>
 bnd (ifb (decide ((0 : Int) < h))
 (bnd (Zgc (a ++ (([47] : List UInt8)))) fun k =>
 bnd (Zkg x.den) fun c =>
 bnd (Zgc (((a ++ (([47] : List UInt8)))) ++ c)) fun l =>
 some ((((a ++ (([47] : List UInt8)))) ++ c)))
 (some a))
 (fun (i : (List UInt8)) =>
 (some i))))))
theorem ZGd {n : Nat} (h : bl n ≤ 1099511627776) : Z9a n := Zum (by omega)
theorem Zac {n : Nat} (h : bl n ≤ 1099511627776) : ZRa n := by have := ZGd h; unfold Z9a at this; unfold ZRa; omega
theorem rneg_eq {x : Rat} (h : okQ x) : Z7h x = some (-x) := by
  obtain ⟨h1, h2⟩ := h; unfold Z7h Zyc ZZb; rw [Zf, if_pos ⟨ZGd h1, ZGd h2, x.den_nz⟩, Zf]; congr 1; have e : sgn (!(decide (x.num < 0))) x.num.natAbs = -x.num := by
    unfold sgn; by_cases h : x.num < 0
    · simp [h]; omega
    · simp [h]; omega
  rw [e]; exact Rat.mkRat_self (-x)
theorem Z4p {x z : Rat} (h : Z7e x = some z) : Z7h x = some z := by
  unfold Z7e at h; split at h
  · rename_i hh; rw [rneg_eq hh, h]
  · cases h
theorem radd_eq {x y : Rat} (h : smQ x) (h' : smQ y) : ZKg x y = some (x + y) := by
  obtain ⟨a1, a2⟩ := h; obtain ⟨b1, b2⟩ := h'; unfold ZKg Zyc; have p1 := ZIb x.num.natAbs y.den; have p2 := ZIb y.num.natAbs x.den; have p3 := ZIb x.den y.den; have p4 := Zrk (x.num.natAbs * y.den) (y.num.natAbs * x.den); have hd : x.den * y.den ≠ 0 := Nat.mul_ne_zero x.den_nz y.den_nz; have e1 : Zdb x.num.natAbs y.den = some (x.num.natAbs * y.den) := by unfold Zdb; rw [if_pos ⟨Zac (by omega), Zac (by omega)⟩]
  have e2 : Zdb y.num.natAbs x.den = some (y.num.natAbs * x.den) := by unfold Zdb; rw [if_pos ⟨Zac (by omega), Zac (by omega)⟩]
  have e3 : Zdb x.den y.den = some (x.den * y.den) := by unfold Zdb; rw [if_pos ⟨Zac (by omega), Zac (by omega)⟩]
  have eN : ((x.num.natAbs * y.den : Nat) : Int) = (x.num.natAbs : Int) * y.den := by simp
  have eM : ((y.num.natAbs * x.den : Nat) : Int) = (y.num.natAbs : Int) * x.den := by simp
  have key : ∀ (s : Bool) (n : Nat), bl n ≤ 1099511627776 → sgn s n = x.num * y.den + y.num * x.den → ZZb s n (x.den * y.den) = some (x + y) := by
    intro s n hn he; unfold ZZb; rw [if_pos ⟨ZGd hn, ZGd (by omega), hd⟩, he, ← Rat.add_def']
  rw [Zf, Zf, e1, Zf, e2, Zf, e3]; obtain ⟨N, hN⟩ : ∃ N, N = x.num.natAbs * y.den := ⟨_, rfl⟩; obtain ⟨M, hM⟩ : ∃ M, M = y.num.natAbs * x.den := ⟨_, rfl⟩; rw [← hN] at p1 p4 eN ⊢; rw [← hM] at p2 p4 eM ⊢; have sx : x.num * (y.den : Int) = if x.num < 0 then -(N : Int) else N := by
    split
    · rw [eN, ← Int.neg_mul]; congr 1; omega
    · rw [eN]; congr 1; omega
  have sy : y.num * (x.den : Int) = if y.num < 0 then -(M : Int) else M := by
    split
    · rw [eM, ← Int.neg_mul]; congr 1; omega
    · rw [eM]; congr 1; omega
  by_cases hs : (x.num < 0) ↔ (y.num < 0)
  · have e4 : Z0f N M = some (N + M) := by unfold Z0f; rw [if_pos ⟨Zac (by omega), Zac (by omega)⟩]
    have e5 : ((decide (x.num < 0)) == (decide (y.num < 0))) = true := by
      by_cases h : x.num < 0
      · simp [h, hs.1 h]
      · have h2 : ¬ y.num < 0 := fun k => h (hs.2 k); simp [h, h2]
    rw [e5, ZL, e4, Zf, Zf, key _ _ (by omega) ?_, Zf]; rw [sx, sy]; unfold sgn; by_cases h : x.num < 0
    · have h2 := hs.1 h; simp [h, h2]; omega
    · have h2 : ¬ y.num < 0 := fun k => h (hs.2 k); simp [h, h2]
  · have e5 : ((decide (x.num < 0)) == (decide (y.num < 0))) = false := by
      apply beq_false_of_ne; intro h; exact hs (by by_cases k : x.num < 0 <;> by_cases k2 : y.num < 0 <;> simp_all)
    rw [e5, ZK]; unfold ZEd; rw [Zf]; by_cases hle : M ≤ N
    · have e6 : decide ((0 : Int) ≤ Zfb N M) = true := by
        unfold Zfb; rw [if_neg (by omega)]; split <;> rfl
      have e4 : ZHc N M = some (N - M) := by unfold ZHc; rw [if_pos ⟨Zac (by omega), hle⟩]
      have hb : bl (N - M) ≤ bl N := Zpe (by omega); rw [e6, ZL, e4, Zf, Zf, key _ _ (by omega) ?_, Zf]; rw [sx, sy]; unfold sgn; by_cases h : x.num < 0
      · have h2 : ¬ y.num < 0 := fun k => hs ⟨fun _ => k, fun _ => h⟩; simp [h, h2]; omega
      · have h2 : y.num < 0 := by
          rcases Int.lt_or_le y.num 0 with k | k
          · exact k
          · exact absurd ⟨fun q => absurd q h, fun q => absurd q (by omega)⟩ hs
        simp [h, h2]; omega
    · have e6 : decide ((0 : Int) ≤ Zfb N M) = false := by
        unfold Zfb; rw [if_pos (by omega)]; rfl
      have e4 : ZHc M N = some (M - N) := by unfold ZHc; rw [if_pos ⟨Zac (by omega), by omega⟩]
      have hb : bl (M - N) ≤ bl M := Zpe (by omega); rw [e6, ZK, e4, Zf, Zf, key _ _ (by omega) ?_, Zf]; rw [sx, sy]; unfold sgn; by_cases h : x.num < 0
      · have h2 : ¬ y.num < 0 := fun k => hs ⟨fun _ => k, fun _ => h⟩; simp [h, h2]; omega
      · have h2 : y.num < 0 := by
          rcases Int.lt_or_le y.num 0 with k | k
          · exact k
          · exact absurd ⟨fun q => absurd q h, fun q => absurd q (by omega)⟩ hs
        simp [h, h2]; omega
theorem Znp {x y z : Rat} (h : ZSd x y = some z) : ZKg x y = some z := by
  unfold ZSd at h; split at h
  · rename_i hh; rw [radd_eq hh.1 hh.2, h]
  · cases h
theorem smQ_neg {x : Rat} (h : smQ x) : smQ (-x) := by
  unfold smQ at *; have := ZIi x; rw [this.1, this.2]; exact h
theorem smQ_ok {x : Rat} (h : smQ x) : okQ x := by unfold smQ at h; unfold okQ; omega
theorem Zdo {x y z : Rat} (h : Zle x y = some z) : ZRj x y = some z := by
  unfold Zle at h; split at h
  · rename_i hh; unfold ZRj Z7e ZSd; rw [if_pos (smQ_ok hh.2), Zf, if_pos ⟨hh.1, smQ_neg hh.2⟩, Zf, ← Rat.sub_eq_add_neg]; exact h
  · cases h
theorem ZVp {x y z : Rat} (h : ZWd x y = some z) : ZYj x y = some z := by
  unfold ZWd at h; split at h
  · rename_i hh; obtain ⟨⟨a1, a2⟩, b1, b2⟩ := hh
    cases h
    unfold ZYj Zyc; have p1 := ZIb x.num.natAbs y.num.natAbs; have p3 := ZIb x.den y.den; have e1 : Zdb x.num.natAbs y.num.natAbs = some (x.num.natAbs * y.num.natAbs) := by unfold Zdb; rw [if_pos ⟨Zac (by omega), Zac (by omega)⟩]
    have e3 : Zdb x.den y.den = some (x.den * y.den) := by unfold Zdb; rw [if_pos ⟨Zac (by omega), Zac (by omega)⟩]
    rw [e1, Zf, Zf, Zf, e3, Zf]; unfold ZZb; rw [if_pos ⟨ZGd (by omega), ZGd (by omega), Nat.mul_ne_zero x.den_nz y.den_nz⟩, Zf]; have e : sgn ((decide (x.num < 0)) != (decide (y.num < 0))) (x.num.natAbs * y.num.natAbs) = x.num * y.num := by
      have eN : ((x.num.natAbs * y.num.natAbs : Nat) : Int) = (x.num.natAbs : Int) * y.num.natAbs := by simp
      unfold sgn; rw [eN]; by_cases h : x.num < 0
      · have hx : (x.num.natAbs : Int) = -x.num := by omega
        by_cases h2 : y.num < 0
        · have hy : (y.num.natAbs : Int) = -y.num := by omega
          simp [h, h2, hx, hy, Int.neg_mul, Int.mul_neg]
        · have hy : (y.num.natAbs : Int) = y.num := by omega
          simp [h, h2, hx, hy, Int.neg_mul, Int.mul_neg]
      · have hx : (x.num.natAbs : Int) = x.num := by omega
        by_cases h2 : y.num < 0
        · have hy : (y.num.natAbs : Int) = -y.num := by omega
          simp [h, h2, hx, hy, Int.neg_mul, Int.mul_neg]
        · have hy : (y.num.natAbs : Int) = y.num := by omega
          simp [h, h2, hx, hy, Int.neg_mul, Int.mul_neg]
    rw [e, ← Rat.mul_def']
  · cases h
theorem Zeo {x y : Rat} {z : Rat × Int} (h : Z3h x y = some z) : Zwj x y = some z := by
  unfold Z3h at h; split at h
  · rename_i hh; obtain ⟨⟨a1, a2⟩, b1, b2⟩ := hh
    cases h
    unfold Zwj ZId; rw [Zf]; by_cases h0 : y = 0
    · subst h0; rfl
    · rw [decide_eq_false h0, ZK, if_neg h0]; unfold Zyc; have hn := ZVj h0; have p1 := ZIb x.num.natAbs y.den; have p3 := ZIb x.den y.num.natAbs; have e1 : Zdb x.num.natAbs y.den = some (x.num.natAbs * y.den) := by unfold Zdb; rw [if_pos ⟨Zac (by omega), Zac (by omega)⟩]
      have e3 : Zdb x.den y.num.natAbs = some (x.den * y.num.natAbs) := by unfold Zdb; rw [if_pos ⟨Zac (by omega), Zac (by omega)⟩]
      rw [Zf, e1, Zf, Zf, e3, Zf]; unfold ZZb; rw [if_pos ⟨ZGd (by omega), ZGd (by omega), Nat.mul_ne_zero x.den_nz (by omega)⟩, Zf]; have e : sgn ((decide (x.num < 0)) != (decide (y.num < 0))) (x.num.natAbs * y.den) = if y.num < 0 then -(x.num * (y.den : Int)) else x.num * (y.den : Int) := by
        have eN : ((x.num.natAbs * y.den : Nat) : Int) = (x.num.natAbs : Int) * y.den := by simp
        unfold sgn; rw [eN]; by_cases h : x.num < 0
        · have hx : (x.num.natAbs : Int) = -x.num := by omega
          by_cases h2 : y.num < 0 <;> simp [h, h2, hx, Int.neg_mul]
        · have hx : (x.num.natAbs : Int) = x.num := by omega
          by_cases h2 : y.num < 0 <;> simp [h, h2, hx, Int.neg_mul]
      rw [e, ← Zzk h0]
  · cases h
theorem rbyF_eq {x y z : Rat} (h : Zne x y = some z) : ZTj x y = some z := by
  unfold Zne at h; split at h
  · rename_i hh
    cases h
    unfold ZTj Z3h; rw [if_pos hh, Zf]; split <;> rfl
  · cases h
theorem Zeq {x y : Rat} {z : Int} (h : ZRe x y = some z) : Zpi x y = some z := by
  unfold ZRe at h; split at h
  · rename_i hh
    cases h
    unfold Zpi Zle ZMc; rw [if_pos hh, Zf, Zf]
  · cases h
theorem ZWo {x : Rat} {z : List UInt8} (h : ZHh x = some z) : Zgj x = some z := by
  unfold ZHh at h; split at h
  · rename_i hh; obtain ⟨h1, h2⟩ := hh
    cases h
    unfold Zgj Zkg; have l1 := Zjj (n := x.num.natAbs) (by omega); have l2 := Zjj (n := x.den) (by omega); rw [if_pos (ZGd h1), Zf]; have e0 : ifb (decide (x.num < 0)) (bnd (ZId x) fun y136 => some (!(y136))) (some false) = some (decide (x.num < 0)) := by
      unfold ZId; by_cases h : x.num < 0
      · have : x ≠ 0 := fun e => by subst e; simp at h
        rw [decide_eq_true h, ZL, Zf, decide_eq_false this]; rfl
      · rw [decide_eq_false h, ZK]
    rw [e0, Zf]; have e1 : ifb (decide (x.num < 0)) (bnd (Zgc ([45] ++ ZAb x.num.natAbs)) fun y80 => some (([45] : List UInt8) ++ ZAb x.num.natAbs)) (some (ZAb x.num.natAbs)) = some ((if x.num < 0 then [45] else []) ++ ZAb x.num.natAbs) := by
      by_cases h : x.num < 0
      · rw [decide_eq_true h, ZL, Zde (by simp; omega), Zf, if_pos h]
      · rw [decide_eq_false h, ZK, if_neg h]; rfl
    rw [e1, Zf]; unfold txtQ Zyc ZEd; have l3 : ((if x.num < 0 then [45] else []) ++ ZAb x.num.natAbs : List UInt8).length ≤ 4398046511105 := by
      rw [List.length_append]; split <;> simp <;> omega
    generalize ((if x.num < 0 then [45] else []) ++ ZAb x.num.natAbs : List UInt8) = s at *; rw [Zf, ZAk, Zf, Zf, Z0m]; by_cases hd : x.den = 1
    · rw [hd]; simp [ifb, bnd]
    · have := x.den_nz; rw [decide_eq_true (by omega), ZL, Zde (by simp; omega), Zf, if_pos (ZGd h2), Zf, Zde (by simp; omega), Zf, Zf, if_neg hd]; simp
  · cases h
noncomputable def Z1e (x : Rat) (y : Rat) : Option (Bool) :=
 bnd (Z8d x) fun a =>
 bnd (ZHh y) fun b =>
 some (a == b)
set_option maxRecDepth 100000
theorem ZIk {k m : Nat} {x y : Rat} (h : sz k x) (h' : sz m y) (hk : k + m ≤ 1000000000) : ZSd x y = some (x + y) := by unfold ZSd; rw [if_pos ⟨h.sm (by omega), h'.sm (by omega)⟩]
theorem ZHl {k m : Nat} {x y : Rat} (h : sz k x) (h' : sz m y) (hk : k + m ≤ 1000000000) : Zle x y = some (x - y) := by unfold Zle; rw [if_pos ⟨h.sm (by omega), h'.sm (by omega)⟩]
theorem ZCi {k m : Nat} {x y : Rat} (h : sz k x) (h' : sz m y) (hk : k + m ≤ 1000000000) : ZWd x y = some (x * y) := by unfold ZWd; rw [if_pos ⟨h.sm (by omega), h'.sm (by omega)⟩]
theorem Zri {k m : Nat} {x y : Rat} (h : sz k x) (h' : sz m y) (hk : k + m ≤ 1000000000) (hy : y ≠ 0) : Zne x y = some (x / y) := by unfold Zne; rw [if_pos ⟨h.sm (by omega), h'.sm (by omega)⟩, if_neg hy]
theorem ZYk {k m : Nat} {x y : Rat} (h : sz k x) (h' : sz m y) (hk : k + m ≤ 1000000000) : ZRe x y = some (x - y).num.sign := by unfold ZRe; rw [if_pos ⟨h.sm (by omega), h'.sm (by omega)⟩]
theorem Zbl {k : Nat} {x : Rat} (h : sz k x) (hk : k ≤ 1000000000) : Z1e x x = some true := by
  unfold Z1e Z8d ZHh; rw [if_pos (h.ok (by omega)), Zf, Zf]; simp
theorem Zkh : sz 1 (1 : Rat) := by constructor <;> decide
noncomputable def ZDg (l : (List (Rat × Rat × Rat × Rat))) : Option (Int) :=
 bnd (ifb (decide ((l.length : Int) < (1 : Int)))
 (some true)
 (some (decide ((12 : Int) < (l.length : Int)))))
 (fun (c : Bool) =>
 (ifb (c)
 (some ((4 : Int)))
 (bnd (bnd (Zaa (fun s : Int=>match s with
 | b =>
 (ifb (decide (b < (l.length : Int)))
 (bnd (idx l b) fun a =>
 bnd (bnd (Zxc a.1) fun d =>
 ifb (decide (d ≤ (0 : Int)))
 (some true)
 (bnd (Zxc a.2.2.2) fun e =>
 ifb (decide (e ≤ (0 : Int)))
 (some true)
 (bnd (Zxc a.2.1) fun f =>
 ifb (decide (f < (0 : Int)))
 (some true)
 (bnd (Zxc a.2.2.1) fun g =>
 some (decide (g < (0 : Int)))))))
 (fun (h : Bool) =>
 (ifb (h)
 (some (.inr ((.inl ((1 : Int))))))
 (bnd (chk .i64 (b + ((1 : Int)))) fun i =>
 some (.inl i)))))
 (some (.inr ((.inr (()))))))) Zqa ((0 : Int)))
 (fun (p : (Int) ⊕ (Unit))=>match p with
 | .inl j =>
 (some ((.inr j)))
 | .inr (()) =>
 (some ((.inl (()))))))
 (fun (p : (Unit) ⊕ (Int))=>match p with
 | .inl (()) =>
 (some ((0 : Int)))
 | .inr k =>
 (some k)))))
noncomputable def ZGh (x : Rat) : Option (Rat) :=
 bnd (Zxc x) fun a =>
 ifb (decide (a < (0 : Int)))
 (bnd (ZZf x) fun b =>
 some b)
 (some x)
noncomputable def ZAf (r : (Rat × (List (Rat × Rat)))) (l : (List (Rat × Rat × Rat × Rat))) : Option (Rat) :=
 bnd (bnd (Zaa (fun s : Rat × Int=>match s with
 | (e,b) =>
 (ifb (decide (b < (l.length : Int)))
 (bnd (idx l b) fun a =>
 bnd (Zug ((r.1,r.2)) a.1) fun f =>
 bnd (Zjd f.1 a.2.1) fun h =>
 bnd (Zjd f.2 a.2.2.1) fun i =>
 bnd (bnd (Zaa (fun s : Rat × Int=>match s with
 | (c,d) =>
 (ifb (decide (d < (2 : Int)))
 (bnd (idx [h,i] d) fun j =>
 bnd (bnd (ZGh j) fun k =>
 bnd (ZVd k a.2.2.2) fun m =>
 some m.1)
 (fun (g : Rat) =>
 (bnd (Z0d g c) fun n =>
 bnd (ifb (decide ((0 : Int) < n))
 (some g)
 (some c))
 (fun (o : Rat) =>
 (bnd (chk .i64 (d + ((1 : Int)))) fun p =>
 some (.inl ((o,p))))))))
 (some (.inr c)))) Zqa ((e,(0 : Int))))
 (fun (q : Rat) =>
 (some q)))
 (fun (t : Rat) =>
 (bnd (chk .i64 (b + ((1 : Int)))) fun u =>
 some (.inl ((t,u))))))
 (some (.inr e)))) Zqa (((0 : Rat),(0 : Int))))
 (fun (v : Rat) =>
 (some v)))
 (fun (w : Rat) =>
 (some w))
noncomputable def ZMi (r : (Rat × (List (Rat × Rat)))) (l : (List (Rat × Rat × Rat × Rat))) : Option (Rat × Int) :=
 bnd (ZYf ((r.1,r.2))) fun a =>
 ifb (a != ((0 : Int)))
 (some (((0 : Rat),a)))
 (bnd (ZDg l) fun b =>
 ifb (b != ((0 : Int)))
 (some (((0 : Rat),b)))
 (bnd (ZAf ((r.1,r.2)) l) fun c =>
 some ((c,(0 : Int)))))
noncomputable def ZPg (t : Rat) (fw : Rat) : Option (Rat × Rat) :=
 bnd (ZWd fw t) fun a =>
 bnd (bnd (ZCc ((1 : Int))) fun c =>
 bnd (ZWd a a) fun d =>
 bnd (ZSd c d) fun e =>
 some e)
 (fun (b : Rat) =>
 (bnd (ZWd a a) fun f =>
 bnd (Zne f b) fun g =>
 bnd (Zne a b) fun h =>
 some ((g,h))))
noncomputable def Zog (r : (Rat × (List (Rat × Rat)))) (fw : Rat) : Option (Rat × Rat) :=
 bnd (ZCc ((0 : Int))) fun e =>
 bnd (bnd (Zaa (fun s : Rat × Rat × Int=>match s with
 | (b,c,a) =>
 (ifb (decide (a < (r.2.length : Int)))
 (bnd (bnd (idx r.2 a) fun f =>
 bnd (ZPg f.2 fw) fun d =>
 some ((d.1,d.2)))
 (fun (p : Rat × Rat)=>match p with
 | (g,h) =>
 (bnd (idx r.2 a) fun i =>
 bnd (ZWd i.1 g) fun j =>
 bnd (ZSd b j) fun k =>
 bnd (idx r.2 a) fun l =>
 bnd (ZWd l.1 h) fun m =>
 bnd (ZSd c m) fun n =>
 bnd (chk .i64 (a + ((1 : Int)))) fun o =>
 some (.inl ((k,n,o))))))
 (some (.inr ((b,c)))))) Zqa ((r.1,e,(0 : Int))))
 (fun (p : Rat × Rat)=>match p with
 | (q,t) =>
 (some ((q,t)))))
 (fun (p : Rat × Rat)=>match p with
 | (u,v) =>
 (some ((u,v))))
noncomputable def Zng (x : Rat) : Option (Rat) :=
 bnd (ZMc x) fun a =>
 ifb (decide (a < (0 : Int)))
 (bnd (Z7e x) fun b =>
 some b)
 (some x)
noncomputable def Z1f (r : (Rat × (List (Rat × Rat)))) (l : (List (Rat × Rat × Rat × Rat))) : Option (Rat) :=
 bnd (ZCc ((0 : Int))) fun g =>
 bnd (bnd (Zaa (fun s : Rat × Int=>match s with
 | (b,a) =>
 (ifb (decide (a < (l.length : Int)))
 (bnd (bnd (idx l a) fun h =>
 bnd (Zog ((r.1,r.2)) h.1) fun c =>
 some ((c.1,c.2)))
 (fun (p : Rat × Rat)=>match p with
 | (i,j) =>
 (bnd (bnd (idx l a) fun k =>
 bnd (Zle i k.2.1) fun m =>
 bnd (Zng m) fun n =>
 bnd (idx l a) fun o =>
 bnd (Zne n o.2.2.2) fun q =>
 some q)
 (fun (d : Rat) =>
 (bnd (bnd (idx l a) fun t =>
 bnd (Zle j t.2.2.1) fun u =>
 bnd (Zng u) fun v =>
 bnd (idx l a) fun w =>
 bnd (Zne v w.2.2.2) fun x =>
 some x)
 (fun (e : Rat) =>
 (bnd (ZRe d b) fun y =>
 bnd (ifb (decide ((0 : Int) < y))
 (some d)
 (some b))
 (fun (f : Rat) =>
 (bnd (ZRe e f) fun z =>
 bnd (ifb (decide ((0 : Int) < z))
 (some e)
 (some f))
 (fun (A : Rat) =>
 (bnd (chk .i64 (a + ((1 : Int)))) fun B =>
 some (.inl ((A,B))))))))))))))
 (some (.inr b)))) Zqa ((g,(0 : Int))))
 (fun (C : Rat) =>
 (some C)))
 (fun (D : Rat) =>
 (some D))
noncomputable def ZZg (l : (List (Rat × Rat × Rat × Rat))) : Option (Int) :=
 bnd (ifb (decide ((l.length : Int) < (1 : Int)))
 (some true)
 (some (decide ((12 : Int) < (l.length : Int)))))
 (fun (b : Bool) =>
 (ifb (b)
 (some ((4 : Int)))
 (bnd (bnd (Zaa (fun s : Int=>match s with
 | a =>
 (ifb (decide (a < (l.length : Int)))
 (bnd (bnd (idx l a) fun c =>
 bnd (ZMc c.1) fun d =>
 ifb (decide (d ≤ (0 : Int)))
 (some true)
 (bnd (idx l a) fun e =>
 bnd (ZMc e.2.2.2) fun f =>
 ifb (decide (f ≤ (0 : Int)))
 (some true)
 (bnd (idx l a) fun g =>
 bnd (ZMc g.2.1) fun h =>
 ifb (decide (h < (0 : Int)))
 (some true)
 (bnd (idx l a) fun i =>
 bnd (ZMc i.2.2.1) fun j =>
 some (decide (j < (0 : Int)))))))
 (fun (k : Bool) =>
 (ifb (k)
 (some (.inr ((.inl ((1 : Int))))))
 (bnd (chk .i64 (a + ((1 : Int)))) fun m =>
 some (.inl m)))))
 (some (.inr ((.inr (()))))))) Zqa ((0 : Int)))
 (fun (p : (Int) ⊕ (Unit))=>match p with
 | .inl n =>
 (some ((.inr n)))
 | .inr (()) =>
 (some ((.inl (()))))))
 (fun (p : (Unit) ⊕ (Int))=>match p with
 | .inl (()) =>
 (some ((0 : Int)))
 | .inr o =>
 (some o)))))
noncomputable def ZWh (r : (Rat × (List (Rat × Rat)))) : Option (Int) :=
 ifb (decide ((10 : Int) < (r.2.length : Int)))
 (some ((4 : Int)))
 (bnd (ZMc r.1) fun b =>
 ifb (decide (b < (0 : Int)))
 (some ((1 : Int)))
 (bnd (bnd (Zaa (fun s : Int=>match s with
 | a =>
 (ifb (decide (a < (r.2.length : Int)))
 (bnd (bnd (idx r.2 a) fun c =>
 bnd (ZMc c.1) fun d =>
 ifb (decide (d < (0 : Int)))
 (some true)
 (bnd (idx r.2 a) fun e =>
 bnd (ZMc e.2) fun f =>
 some (decide (f ≤ (0 : Int)))))
 (fun (g : Bool) =>
 (ifb (g)
 (some (.inr ((.inl ((1 : Int))))))
 (bnd (ifb (decide ((0 : Int) < a))
 (bnd (idx r.2 a) fun h =>
 bnd (chk .i64 (a - ((1 : Int)))) fun i =>
 bnd (idx r.2 i) fun j =>
 bnd (ZRe h.2 j.2) fun k =>
 some (decide (k ≤ (0 : Int))))
 (some false))
 (fun (l : Bool) =>
 (ifb (l)
 (some (.inr ((.inl ((7 : Int))))))
 (bnd (chk .i64 (a + ((1 : Int)))) fun m =>
 some (.inl m))))))))
 (some (.inr ((.inr (()))))))) Zqa ((0 : Int)))
 (fun (p : (Int) ⊕ (Unit))=>match p with
 | .inl n =>
 (some ((.inr n)))
 | .inr (()) =>
 (some ((.inl (()))))))
 (fun (p : (Unit) ⊕ (Int))=>match p with
 | .inl (()) =>
 (some ((0 : Int)))
 | .inr o =>
 (some o))))
noncomputable def ZOg (l : (List ((Int × Int) × (Int × Int) × (Int × Int) × (Int × Int)))) : Option ((List (Rat × Rat × Rat × Rat)) × (List (Rat × Rat × Rat × Rat))) :=
 bnd (bnd (mk 224 ((l.length : Int)) ((l.length : Int))) fun x =>
 bnd (mk 224 ((l.length : Int)) ((l.length : Int))) fun y =>
 some (((List.replicate ((l.length : Int)).toNat (((0 : Rat),(0 : Rat),(0 : Rat),(0 : Rat)))),(List.replicate ((l.length : Int)).toNat (((none : Option Rat),(none : Option Rat),(none : Option Rat),(none : Option Rat)))))))
 (fun (p : (List (Rat × Rat × Rat × Rat)) × (List ((Option Rat) × (Option Rat) × (Option Rat) × (Option Rat))))=>match p with
 | (e,f) =>
 (bnd (bnd (Zaa (fun s : (List (Rat × Rat × Rat × Rat)) × (List ((Option Rat) × (Option Rat) × (Option Rat) × (Option Rat))) × Int=>match s with
 | (c,d,b) =>
 (ifb (decide (b < (l.length : Int)))
 (bnd (idx l b) fun a =>
 bnd (ZZc ((a.1.1,a.1.2))) fun g =>
 bnd (ZZc ((a.2.1.1,a.2.1.2))) fun h =>
 bnd (ZZc ((a.2.2.1.1,a.2.2.1.2))) fun i =>
 bnd (ZZc ((a.2.2.2.1,a.2.2.2.2))) fun j =>
 bnd (idx c b) fun z =>
 bnd (ZNc ((a.1.1,a.1.2))) fun k =>
 bnd (ZNc ((a.2.1.1,a.2.1.2))) fun m =>
 bnd (ZNc ((a.2.2.1.1,a.2.2.1.2))) fun n =>
 bnd (ZNc ((a.2.2.2.1,a.2.2.2.2))) fun o =>
 bnd (idx d b) fun A =>
 bnd (chk .i64 (b + ((1 : Int)))) fun q =>
 some (.inl (((c.set (b).toNat ((g,h,i,j))),(d.set (b).toNat (((some k),(some m),(some n),(some o)))),q))))
 (some (.inr ((c,d)))))) Zqa ((e,f,(0 : Int))))
 (fun (p : (List (Rat × Rat × Rat × Rat)) × (List ((Option Rat) × (Option Rat) × (Option Rat) × (Option Rat))))=>match p with
 | (r,t) =>
 (some ((r,t)))))
 (fun (p : (List (Rat × Rat × Rat × Rat)) × (List ((Option Rat) × (Option Rat) × (Option Rat) × (Option Rat))))=>match p with
 | (u,v) =>
 (bnd (mapO (coP coQ (coP coQ (coP coQ coQ))) v) fun w =>
 some ((u,w))))))
noncomputable def Zph (r : ((Int × Int) × (List ((Int × Int) × (Int × Int))))) : Option ((Rat × (List (Rat × Rat))) × (Rat × (List (Rat × Rat)))) :=
 bnd (ZZc ((r.1.1,r.1.2))) fun m =>
 bnd (ZNc ((r.1.1,r.1.2))) fun n =>
 bnd (bnd (Zaa (fun s : (Rat × (List (Rat × Rat))) × (Rat × (List (Rat × Rat))) × Int=>match s with
 | (b,c,d) =>
 (ifb (decide (d < (r.2.length : Int)))
 (bnd (idx r.2 d) fun a =>
 bnd (Z5a 112 (([] : (List (Rat × Rat))) ++ b.2)) fun q =>
 bnd (ZZc ((a.1.1,a.1.2))) fun e =>
 bnd (ZZc ((a.2.1,a.2.2))) fun f =>
 bnd (Z5a 112 ((([] : (List (Rat × Rat))) ++ b.2) ++ [(e,f)])) fun t =>
 bnd (Z5a 112 (([] : (List (Rat × Rat))) ++ c.2)) fun u =>
 bnd (ZNc ((a.1.1,a.1.2))) fun g =>
 bnd (ZNc ((a.2.1,a.2.2))) fun h =>
 bnd (Z5a 112 ((([] : (List (Rat × Rat))) ++ c.2) ++ [(g,h)])) fun v =>
 bnd (chk .i64 (d + ((1 : Int)))) fun o =>
 some (.inl (((b.1,((([] : (List (Rat × Rat))) ++ b.2) ++ [(e,f)])),(c.1,((([] : (List (Rat × Rat))) ++ c.2) ++ [(g,h)])),o))))
 (some (.inr (((b.1,b.2),(c.1,c.2))))))) Zqa (((m,([] : (List (Rat × Rat)))),(n,([] : (List (Rat × Rat)))),(0 : Int))))
 (fun (p : (Rat × (List (Rat × Rat))) × (Rat × (List (Rat × Rat))))=>match p with
 | (i,j) =>
 (some (((i.1,i.2),(j.1,j.2))))))
 (fun (p : (Rat × (List (Rat × Rat))) × (Rat × (List (Rat × Rat))))=>match p with
 | (k,l) =>
 (some (((k.1,k.2),(l.1,l.2)))))
noncomputable def ZKj (r : ((Int × Int) × (List ((Int × Int) × (Int × Int))))) (fw : (Int × Int)) (l : (List ((Int × Int) × (Int × Int) × (Int × Int) × (Int × Int)))) : Option (Bool) :=
 bnd (ifb (decide ((12 : Int) < (r.2.length : Int)))
 (some true)
 (some (decide ((14 : Int) < (l.length : Int)))))
 (fun (h : Bool) =>
 (ifb (h)
 (bnd (ZWe ) fun i =>
 some i)
 (bnd (Zph (((r.1.1,r.1.2),r.2))) fun a =>
 bnd (ZOg l) fun d =>
 bnd (ZZc ((fw.1,fw.2))) fun j =>
 bnd (Z3g ((a.1.1,a.1.2)) j) fun b =>
 bnd (ZMi ((a.1.1,a.1.2)) d.1) fun c =>
 bnd (ZWh ((a.2.1,a.2.2))) fun e =>
 ifb (e != ((0 : Int)))
 (bnd (ifb (b.2.2 == e)
 (ifb (c.2 == e)
 (bnd (Zcd b.1) fun k =>
 ifb (k)
 (bnd (Zcd b.2.1) fun m =>
 ifb (m)
 (bnd (Zcd c.1) fun n =>
 ifb (n)
 (bnd (ZWe ) fun o =>
 some o)
 (some false))
 (some false))
 (some false))
 (some false))
 (some false))
 (fun (q : Bool) =>
 (some q)))
 (bnd (ZNc ((fw.1,fw.2))) fun s =>
 bnd (ZMc s) fun t =>
 bnd (ifb (decide (t < (0 : Int)))
 (bnd (ifb (b.2.2 != ((1 : Int)))
 (some true)
 (bnd (Zcd b.1) fun u =>
 ifb (!(u))
 (some true)
 (bnd (Zcd b.2.1) fun v =>
 some (!(v)))))
 (fun (w : Bool) =>
 (ifb (w)
 (some ((.inl false)))
 (some ((.inr (())))))))
 (bnd (ZNc ((fw.1,fw.2))) fun x =>
 bnd (Zog ((a.2.1,a.2.2)) x) fun f =>
 bnd (ifb (b.2.2 != ((0 : Int)))
 (some true)
 (bnd (Z1e b.1 f.1) fun y =>
 ifb (!(y))
 (some true)
 (bnd (Z1e b.2.1 f.2) fun z =>
 some (!(z)))))
 (fun (A : Bool) =>
 (ifb (A)
 (some ((.inl false)))
 (some ((.inr (()))))))))
 (fun (p : (Bool) ⊕ (Unit))=>match p with
 | .inl B =>
 (some B)
 | .inr (()) =>
 (bnd (ZZg d.2) fun g =>
 ifb (g != ((0 : Int)))
 (bnd (ifb (c.2 == g)
 (bnd (Zcd c.1) fun C =>
 ifb (C)
 (bnd (ZWe ) fun D =>
 some D)
 (some false))
 (some false))
 (fun (E : Bool) =>
 (some E)))
 (bnd (ifb (c.2 == ((0 : Int)))
 (bnd (Z1f ((a.2.1,a.2.2)) d.2) fun F =>
 bnd (Z1e c.1 F) fun G =>
 ifb (G)
 (bnd (ZWe ) fun H =>
 some H)
 (some false))
 (some false))
 (fun (I : Bool) =>
 (some I)))))))))
set_option maxRecDepth 100000
def cf (c : Nat → Int) : Nat → Nat → Int
  | _, 0 => 0
  | i, m + 1 => if c i ≠ 0 then c i else cf c (i + 1) m
theorem ZCj {body : Int → Option (Int ⊕ (Int ⊕ Unit))} (c : Nat → Int) (n : Nat) (hn : n < 2 ^ 62) (h1 : ∀ i, i < n → body (i : Int) = if c i ≠ 0 then some (.inr (.inl (c i))) else some (.inl ((i : Int) + 1))) (he : body (n : Int) = some (.inr (.inr ()))) :
    Zaa body Zqa 0 = some (if cf c 0 n ≠ 0 then .inl (cf c 0 n) else .inr ()) := by
  have key : ∀ m F i, i + m = n → m < F → Zaa body F (i : Int) = some (if cf c i m ≠ 0 then .inl (cf c i m) else .inr ()) := by
    intro m
    induction m with
    | zero =>
      intro F i hi hF; obtain ⟨F, rfl⟩ : ∃ g, F = g + 1 := ⟨F - 1, by omega⟩; obtain rfl : i = n := by omega
      unfold Zaa; rw [he, Zf]; rfl
    | succ m ih =>
      intro F i hi hF; obtain ⟨F, rfl⟩ : ∃ g, F = g + 1 := ⟨F - 1, by omega⟩; unfold Zaa; rw [h1 i (by omega)]; unfold cf; by_cases h : c i ≠ 0
      · rw [if_pos h, Zf, if_pos h, if_pos h]
      · rw [if_neg h, Zf, if_neg h]; exact ih F (i + 1) (by omega) (by omega)
  exact key n Zqa 0 (by omega) (ZVa (by omega))
theorem Zhn {c : Nat → Int} : ∀ m i, cf c i m = 0 → ∀ j, j < m → c (i + j) = 0
  | 0, _, _, j, h => by omega
  | m + 1, i, h0, j, h => by
    unfold cf at h0
    by_cases hc : c i ≠ 0
    · rw [if_pos hc] at h0; exact absurd h0 hc
    · rw [if_neg hc] at h0
      rcases Nat.eq_zero_or_pos j with h1 | h1
      · subst h1; exact Decidable.not_not.1 hc
      · have := Zhn m (i + 1) h0 (j - 1) (by omega)
        rw [show i + 1 + (j - 1) = i + j by omega] at this
        exact this
abbrev P2 := Rat × Rat
abbrev P4 := Rat × Rat × Rat × Rat
abbrev RBR := Rat × List P2
abbrev gP (l : List P2) (i : Nat) : P2 := l.getD i (0, 0)
abbrev gR (l : List P4) (i : Nat) : P4 := l.getD i (0, 0, 0, 0)
def cB (l : List P2) (i : Nat) : Int := if (gP l i).1 < 0 ∨ (gP l i).2 ≤ 0 then 1 else if 0 < i ∧ (gP l i).2 ≤ (gP l (i - 1)).2 then 7 else 0
def ZUe (r : RBR) : Int := if 10 < r.2.length then 4 else if r.1 < 0 then 1 else cf (cB r.2) 0 r.2.length
def cG (l : List P4) (i : Nat) : Int := if (gR l i).1 ≤ 0 ∨ (gR l i).2.2.2 ≤ 0 ∨ (gR l i).2.1 < 0 ∨ (gR l i).2.2.1 < 0 then 1 else 0
def ZOb (l : List P4) : Int := if l.length < 1 ∨ 12 < l.length then 4 else cf (cG l) 0 l.length
structure SzB (r : RBR) : Prop where
  rest : sz 64 r.1
  modes : ∀ i, (h : i < r.2.length) → sz 64 r.2[i].1 ∧ sz 64 r.2[i].2
theorem SzB.at {r : RBR} (h : SzB r) {i : Nat} (hi : i < r.2.length) : sz 64 (gP r.2 i).1 ∧ sz 64 (gP r.2 i).2 := by unfold gP; rw [ZJc hi]; exact h.modes i hi
def SzG (l : List P4) : Prop := ∀ i, (h : i < l.length) → sz 64 l[i].1 ∧ sz 64 l[i].2.1 ∧ sz 64 l[i].2.2.1 ∧ sz 64 l[i].2.2.2
theorem SzG.at {l : List P4} (h : SzG l) {i : Nat} (hi : i < l.length) : sz 64 (gR l i).1 ∧ sz 64 (gR l i).2.1 ∧ sz 64 (gR l i).2.2.1 ∧ sz 64 (gR l i).2.2.2 := by unfold gR; rw [ZJc hi]; exact h i hi
theorem Zzd {x : Rat} : decide (x.num.sign < 0) = decide (x < 0) := decide_eq_decide.2 ZPn
theorem np_d {x : Rat} : decide (x.num.sign ≤ 0) = decide (x ≤ 0) := decide_eq_decide.2 ZSl
theorem le_d {x y : Rat} : decide ((x - y).num.sign ≤ 0) = decide (x ≤ y) := decide_eq_decide.2 (by rw [ZSl]; constructor <;> intro h <;> grind)
theorem gt_d {x y : Rat} : decide (0 < (x - y).num.sign) = decide (y < x) := decide_eq_decide.2 (by rw [ZLm]; constructor <;> intro h <;> grind)
theorem or2 (p q : Prop) [Decidable p] [Decidable q] : ifb (decide p) (some true) (some (decide q)) = some (decide (p ∨ q)) := by
  by_cases h : p
  · rw [decide_eq_true h, ZL, decide_eq_true (.inl h)]
  · rw [decide_eq_false h, ZK, show decide (p ∨ q) = decide q from decide_eq_decide.2 ⟨fun k => k.resolve_left h, .inr⟩]
theorem sg (x : Rat) : Zxc x = some x.num.sign := rfl
theorem rsg (x : Rat) : ZMc x = some x.num.sign := rfl
theorem ZBp {r : RBR} (h : SzB r) : ZYf r = some (ZUe r) := by
  unfold ZYf ZUe; by_cases h0 : 10 < r.2.length
  · rw [decide_eq_true (by omega), ZL, if_pos h0]
  rw [decide_eq_false (by omega), ZK, if_neg h0, sg, Zf, Zzd]; by_cases h1 : r.1 < 0
  · rw [decide_eq_true h1, ZL, if_pos h1]
  rw [decide_eq_false h1, ZK, if_neg h1]; refine Zvb (y := if cf (cB r.2) 0 r.2.length ≠ 0 then .inr (cf (cB r.2) 0 r.2.length) else .inl ()) (Zvb (ZCj (cB r.2) r.2.length (by omega) (fun i hi => ?_) ?_) ?_) ?_
  · have g := ZJc (l := r.2) (d := ((0 : Rat), (0 : Rat))) hi; have z := h.at hi; simp only; rw [decide_eq_true (by omega), ZL, Zda hi, Zf, ← g, sg, Zf, sg, Zf, Zzd, np_d, or2, Zf]; by_cases k1 : (gP r.2 i).1 < 0 ∨ (gP r.2 i).2 ≤ 0
    · have hc : cB r.2 i = 1 := by unfold cB; rw [if_pos k1]
      rw [decide_eq_true k1, ZL, hc, if_pos (by decide)]
    · rw [decide_eq_false k1, ZK]; by_cases k2 : 0 < i
      · have e1 : (i : Int) - 1 = ((i - 1 : Nat) : Int) := by omega
        have g2 := ZJc (l := r.2) (d := ((0 : Rat), (0 : Rat))) (show i - 1 < r.2.length by omega); have z2 := h.at (show i - 1 < r.2.length by omega); rw [decide_eq_true (by omega), ZL, Zva (by omega) (by omega), Zf, e1, Zda (by omega), Zf, ← g2, ZGk z.2 z2.2 (by omega), Zf, le_d, Zf]; by_cases k3 : (gP r.2 i).2 ≤ (gP r.2 (i - 1)).2
        · have hc : cB r.2 i = 7 := by unfold cB; rw [if_neg k1, if_pos ⟨k2, k3⟩]
          rw [decide_eq_true k3, ZL, hc, if_pos (by decide)]
        · have hc : cB r.2 i = 0 := by unfold cB; rw [if_neg k1, if_neg (fun h => k3 h.2)]
          rw [decide_eq_false k3, ZK, hc, if_neg (by decide), Zva (by omega) (by omega), Zf]
      · have hc : cB r.2 i = 0 := by unfold cB; rw [if_neg k1, if_neg (fun h => k2 h.1)]
        rw [decide_eq_false (by omega), ZK, Zf, ZK, hc, if_neg (by decide), Zva (by omega) (by omega), Zf]
  · simp only; rw [decide_eq_false (by omega), ZK]
  · generalize cf (cB r.2) 0 r.2.length = b; by_cases hb : b ≠ 0
    · rw [if_pos hb, if_pos hb]
    · rw [if_neg hb, if_neg hb]
  · generalize cf (cB r.2) 0 r.2.length = b; by_cases hb : b ≠ 0
    · rw [if_pos hb]
    · rw [if_neg hb, Decidable.not_not.1 hb]
theorem Z6q {r : RBR} (h : SzB r) : ZWh r = some (ZUe r) := by
  unfold ZWh ZUe; by_cases h0 : 10 < r.2.length
  · rw [decide_eq_true (by omega), ZL, if_pos h0]
  rw [decide_eq_false (by omega), ZK, if_neg h0, rsg, Zf, Zzd]; by_cases h1 : r.1 < 0
  · rw [decide_eq_true h1, ZL, if_pos h1]
  rw [decide_eq_false h1, ZK, if_neg h1]; refine Zvb (y := if cf (cB r.2) 0 r.2.length ≠ 0 then .inr (cf (cB r.2) 0 r.2.length) else .inl ()) (Zvb (ZCj (cB r.2) r.2.length (by omega) (fun i hi => ?_) ?_) ?_) ?_
  · have g := ZJc (l := r.2) (d := ((0 : Rat), (0 : Rat))) hi; have z := h.at hi; simp only; rw [decide_eq_true (by omega), ZL, Zda hi, Zf, ← g, rsg, Zf, Zf, rsg, Zf, Zzd, np_d, or2, Zf]; by_cases k1 : (gP r.2 i).1 < 0 ∨ (gP r.2 i).2 ≤ 0
    · have hc : cB r.2 i = 1 := by unfold cB; rw [if_pos k1]
      rw [decide_eq_true k1, ZL, hc, if_pos (by decide)]
    · rw [decide_eq_false k1, ZK]; by_cases k2 : 0 < i
      · have e1 : (i : Int) - 1 = ((i - 1 : Nat) : Int) := by omega
        have g2 := ZJc (l := r.2) (d := ((0 : Rat), (0 : Rat))) (show i - 1 < r.2.length by omega); have z2 := h.at (show i - 1 < r.2.length by omega); rw [decide_eq_true (by omega), ZL, Zf, Zva (by omega) (by omega), Zf, e1, Zda (by omega), Zf, ← g2, ZYk z.2 z2.2 (by omega), Zf, le_d, Zf]; by_cases k3 : (gP r.2 i).2 ≤ (gP r.2 (i - 1)).2
        · have hc : cB r.2 i = 7 := by unfold cB; rw [if_neg k1, if_pos ⟨k2, k3⟩]
          rw [decide_eq_true k3, ZL, hc, if_pos (by decide)]
        · have hc : cB r.2 i = 0 := by unfold cB; rw [if_neg k1, if_neg (fun h => k3 h.2)]
          rw [decide_eq_false k3, ZK, hc, if_neg (by decide), Zva (by omega) (by omega), Zf]
      · have hc : cB r.2 i = 0 := by unfold cB; rw [if_neg k1, if_neg (fun h => k2 h.1)]
        rw [decide_eq_false (by omega), ZK, Zf, ZK, hc, if_neg (by decide), Zva (by omega) (by omega), Zf]
  · simp only; rw [decide_eq_false (by omega), ZK]
  · generalize cf (cB r.2) 0 r.2.length = b; by_cases hb : b ≠ 0
    · rw [if_pos hb, if_pos hb]
    · rw [if_neg hb, if_neg hb]
  · generalize cf (cB r.2) 0 r.2.length = b; by_cases hb : b ≠ 0
    · rw [if_pos hb]
    · rw [if_neg hb, Decidable.not_not.1 hb]
theorem or4 (p q r s : Prop) [Decidable p] [Decidable q] [Decidable r] [Decidable s] : ifb (decide p) (some true) (ifb (decide q) (some true) (ifb (decide r) (some true) (some (decide s)))) = some (decide (p ∨ q ∨ r ∨ s)) := by
  rw [or2 r s]; have h2 := or2 q (r ∨ s); rw [h2, or2 p (q ∨ r ∨ s)]
theorem Zio (l : List P4) : ZDg l = some (ZOb l) := by
  unfold ZDg ZOb; by_cases h0 : l.length < 1 ∨ 12 < l.length
  · rw [or2]; rw [show decide ((l.length : Int) < 1 ∨ (12 : Int) < (l.length : Int)) = true from decide_eq_true (by omega), Zf, ZL, if_pos h0]
  rw [or2, show decide ((l.length : Int) < 1 ∨ (12 : Int) < (l.length : Int)) = false from decide_eq_false (by omega), Zf, ZK, if_neg h0]; refine Zvb (y := if cf (cG l) 0 l.length ≠ 0 then .inr (cf (cG l) 0 l.length) else .inl ()) (Zvb (ZCj (cG l) l.length (by omega) (fun i hi => ?_) ?_) ?_) ?_
  · have g := ZJc (l := l) (d := ((0 : Rat), (0 : Rat), (0 : Rat), (0 : Rat))) hi; simp only; rw [decide_eq_true (by omega), ZL, Zda hi, Zf, ← g]; simp only [sg, Zf]; rw [np_d, np_d, Zzd, Zzd, or4, Zf]; by_cases k1 : (gR l i).1 ≤ 0 ∨ (gR l i).2.2.2 ≤ 0 ∨ (gR l i).2.1 < 0 ∨ (gR l i).2.2.1 < 0
    · have hc : cG l i = 1 := by unfold cG; rw [if_pos k1]
      rw [decide_eq_true k1, ZL, hc, if_pos (by decide)]
    · have hc : cG l i = 0 := by unfold cG; rw [if_neg k1]
      rw [decide_eq_false k1, ZK, hc, if_neg (by decide), Zva (by omega) (by omega), Zf]
  · simp only; rw [decide_eq_false (by omega), ZK]
  · generalize cf (cG l) 0 l.length = b; by_cases hb : b ≠ 0
    · rw [if_pos hb, if_pos hb]
    · rw [if_neg hb, if_neg hb]
  · generalize cf (cG l) 0 l.length = b; by_cases hb : b ≠ 0
    · rw [if_pos hb]
    · rw [if_neg hb, Decidable.not_not.1 hb]
theorem ZVn (l : List P4) : ZZg l = some (ZOb l) := by
  unfold ZZg ZOb; by_cases h0 : l.length < 1 ∨ 12 < l.length
  · rw [or2]; rw [show decide ((l.length : Int) < 1 ∨ (12 : Int) < (l.length : Int)) = true from decide_eq_true (by omega), Zf, ZL, if_pos h0]
  rw [or2, show decide ((l.length : Int) < 1 ∨ (12 : Int) < (l.length : Int)) = false from decide_eq_false (by omega), Zf, ZK, if_neg h0]; refine Zvb (y := if cf (cG l) 0 l.length ≠ 0 then .inr (cf (cG l) 0 l.length) else .inl ()) (Zvb (ZCj (cG l) l.length (by omega) (fun i hi => ?_) ?_) ?_) ?_
  · have g := ZJc (l := l) (d := ((0 : Rat), (0 : Rat), (0 : Rat), (0 : Rat))) hi; simp only; rw [decide_eq_true (by omega), ZL, Zda hi, ← g]; simp only [rsg, Zf]; rw [np_d, np_d, Zzd, Zzd, or4, Zf]; by_cases k1 : (gR l i).1 ≤ 0 ∨ (gR l i).2.2.2 ≤ 0 ∨ (gR l i).2.1 < 0 ∨ (gR l i).2.2.1 < 0
    · have hc : cG l i = 1 := by unfold cG; rw [if_pos k1]
      rw [decide_eq_true k1, ZL, hc, if_pos (by decide)]
    · have hc : cG l i = 0 := by unfold cG; rw [if_neg k1]
      rw [decide_eq_false k1, ZK, hc, if_neg (by decide), Zva (by omega) (by omega), Zf]
  · simp only; rw [decide_eq_false (by omega), ZK]
  · generalize cf (cG l) 0 l.length = b; by_cases hb : b ≠ 0
    · rw [if_pos hb, if_pos hb]
    · rw [if_neg hb, if_neg hb]
  · generalize cf (cG l) 0 l.length = b; by_cases hb : b ≠ 0
    · rw [if_pos hb]
    · rw [if_neg hb, Decidable.not_not.1 hb]
set_option maxRecDepth 100000
def un1 (t w : Rat) : Rat := w * t * (w * t) / (w * t * (w * t) + 1)
def un2 (t w : Rat) : Rat := w * t / (w * t * (w * t) + 1)
theorem ZHk (x : Rat) : x * x + 1 ≠ 0 := by have := ZKq x; grind
section
variable {t w : Rat}
theorem un_sz (ht : sz 64 t) (hw : sz 64 w) : sz 600 (un1 t w) ∧ sz 600 (un2 t w) := by
  have z1 := ZGc hw ht; have z2 := ZGc z1 z1; have z3 := Zsf z2 Zkh; exact ⟨(Z4i z2 z3).mono (by omega), (Z4i z1 z3).mono (by omega)⟩
theorem Zjr (ht : sz 64 t) (hw : sz 64 w) : ZDh t w = some (un1 t w, un2 t w) := by
  unfold ZDh; have z1 := ZGc hw ht; have z2 := ZGc z1 z1; have z3 := Zsf z2 Zkh; have q1 : Znd (1 : Int) = some 1 := rfl; rw [ZEi hw ht (by omega), Zf, ZEi z1 z1 (by omega), Zf, q1]; simp only [Zf]; rw [ZDk z2 Zkh (by omega)]; simp only [Zf]; rw [ZHj z2 z3 (by omega) (ZHk _), Zf, ZHj z1 z3 (by omega) (ZHk _), Zf]; rfl
theorem ZYo (ht : sz 64 t) (hw : sz 64 w) : ZPg t w = some (un1 t w, un2 t w) := by
  unfold ZPg; have z1 := ZGc hw ht; have z2 := ZGc z1 z1; have z3 := Zsf Zkh z2; have hc : (1 : Rat) + w * t * (w * t) = w * t * (w * t) + 1 := Rat.add_comm _ _; have hne : (1 : Rat) + w * t * (w * t) ≠ 0 := by rw [hc]; exact ZHk _
  have q1 : ZCc (1 : Int) = some 1 := rfl; rw [ZCi hw ht (by omega), Zf, q1]; simp only [Zf]; rw [ZCi z1 z1 (by omega), Zf, ZIk Zkh z2 (by omega)]; simp only [Zf]; rw [Zri z2 z3 (by omega) hne, Zf, Zri z1 z3 (by omega) hne, Zf, hc]; rfl
end
def rs (r : RBR) (w : Rat) : Nat → Rat × Rat
  | 0 => (r.1, 0)
  | i + 1 => ((rs r w i).1 + un1 (gP r.2 i).2 w * (gP r.2 i).1, (rs r w i).2 + un2 (gP r.2 i).2 w * (gP r.2 i).1)
def Zcc (r : RBR) (w : Rat) : Rat × Rat := rs r w r.2.length
theorem Z8i {r : RBR} (h : SzB r) {w : Rat} (hw : sz 64 w) : ∀ i, i ≤ r.2.length → sz (700 * i + 64) (rs r w i).1 ∧ sz (700 * i + 64) (rs r w i).2
  | 0, _ => ⟨h.rest.mono (by omega), Zvm.mono (by omega)⟩
  | i + 1, hi => by
    have ih := Z8i h hw i (by omega)
    have z := h.at (i := i) (by omega)
    have u := un_sz z.2 hw
    exact ⟨(Zsf ih.1 (ZGc u.1 z.1)).mono (by omega), (Zsf ih.2 (ZGc u.2 z.1)).mono (by omega)⟩
theorem Zvj {r : RBR} (h : SzB r) {w : Rat} (hw : sz 64 w) (hl : r.2.length ≤ 12) : sz 9000 (Zcc r w).1 ∧ sz 9000 (Zcc r w).2 := by
  have := Z8i h hw r.2.length (Nat.le_refl _); exact ⟨this.1.mono (by omega), this.2.mono (by omega)⟩
theorem Z2l {r : RBR} (h : SzB r) {w : Rat} (hw : sz 64 w) (hl : r.2.length ≤ 12) : Zug r w = some (Zcc r w) := by
  unfold Zug Zcc; refine Zvb (y := rs r w r.2.length) (Zvb (y := rs r w r.2.length) (ZKf (fun i => ((rs r w i).1, (rs r w i).2, (i : Int))) r.2.length rfl (by omega) (fun i hi => ?_) ?_) rfl) rfl
  · have g := ZJc (l := r.2) (d := ((0 : Rat), (0 : Rat))) hi; have z := h.at hi; have u := un_sz z.2 hw; have s := Z8i h hw i (by omega); simp only; rw [decide_eq_true (by omega), ZL, Zda hi, Zf, ← g, Zjr z.2 hw, Zf, ZEi u.1 z.1 (by omega), Zf, ZDk s.1 (ZGc u.1 z.1) (by omega), Zf, ZEi u.2 z.1 (by omega), Zf, ZDk s.2 (ZGc u.2 z.1) (by omega), Zf, Zva (by omega) (by omega), Zf]; rfl
  · simp only; rw [decide_eq_false (by omega), ZK]
theorem Zdn {r : RBR} (h : SzB r) {w : Rat} (hw : sz 64 w) (hl : r.2.length ≤ 12) : Zog r w = some (Zcc r w) := by
  unfold Zog Zcc; have q0 : ZCc (0 : Int) = some 0 := rfl; rw [q0, Zf]; refine Zvb (y := rs r w r.2.length) (Zvb (y := rs r w r.2.length) (ZKf (fun i => ((rs r w i).1, (rs r w i).2, (i : Int))) r.2.length rfl (by omega) (fun i hi => ?_) ?_) rfl) rfl
  · have g := ZJc (l := r.2) (d := ((0 : Rat), (0 : Rat))) hi; have z := h.at hi; have u := un_sz z.2 hw; have s := Z8i h hw i (by omega); simp only; rw [decide_eq_true (by omega), ZL, Zda hi, ← g]; simp only [Zf]; rw [ZYo z.2 hw]; simp only [Zf]; rw [ZCi z.1 u.1 (by omega), Zf, ZIk s.1 (ZGc z.1 u.1) (by omega), Zf, ZCi z.1 u.2 (by omega), Zf, ZIk s.2 (ZGc z.1 u.2) (by omega), Zf, Zva (by omega) (by omega), Zf]; have e1 : (gP r.2 i).1 * un1 (gP r.2 i).2 w = un1 (gP r.2 i).2 w * (gP r.2 i).1 := Rat.mul_comm _ _; have e2 : (gP r.2 i).1 * un2 (gP r.2 i).2 w = un2 (gP r.2 i).2 w * (gP r.2 i).1 := Rat.mul_comm _ _; rw [e1, e2]; rfl
  · simp only; rw [decide_eq_false (by omega), ZK]
def Zsd (x : Rat) : Rat := if x < 0 then -x else x
theorem Zgg {k : Nat} {x : Rat} (h : sz k x) : sz k (Zsd x) := by
  unfold Zsd; split
  · exact sz_neg h
  · exact h
theorem ZJm {k : Nat} {x : Rat} (h : sz k x) (hk : k ≤ 1000000) : ZGh x = some (Zsd x) := by
  unfold ZGh Zsd; rw [sg, Zf, Zzd]; by_cases h1 : x < 0
  · rw [decide_eq_true h1, ZL, if_pos h1]; rfl
  · rw [decide_eq_false h1, ZK, if_neg h1]
theorem ZEl {k : Nat} {x : Rat} (h : sz k x) (hk : k ≤ 1000000) : Zng x = some (Zsd x) := by
  unfold Zng Zsd; rw [rsg, Zf, Zzd]; by_cases h1 : x < 0
  · have : Z7e x = some (-x) := by unfold Z7e; rw [if_pos (h.ok (by omega))]
    rw [decide_eq_true h1, ZL, if_pos h1, this, Zf]
  · rw [decide_eq_false h1, ZK, if_neg h1]
def mx (q m : Rat) : Rat := if m < q then q else m
def q1F (r : RBR) (x : P4) : Rat := Zsd ((Zcc r x.1).1 - x.2.1) / x.2.2.2
def q2F (r : RBR) (x : P4) : Rat := Zsd ((Zcc r x.1).2 - x.2.2.1) / x.2.2.2
def ms (r : RBR) (l : List P4) : Nat → Rat
  | 0 => 0
  | i + 1 => mx (q2F r (gR l i)) (mx (q1F r (gR l i)) (ms r l i))
theorem Zhi {k : Nat} {a b : Rat} (h : sz k a) (h' : sz k b) : sz k (mx a b) := by unfold mx; split <;> assumption
section
variable {r : RBR} {l : List P4}
theorem q_sz (h : SzB r) (hl : r.2.length ≤ 12) (hg : SzG l) {i : Nat} (hi : i < l.length) : sz 10000 (q1F r (gR l i)) ∧ sz 10000 (q2F r (gR l i)) := by
  have z := hg.at hi; have s := Zvj h z.1 hl; exact ⟨(Z4i (Zgg (ZXf s.1 z.2.1)) z.2.2.2).mono (by omega), (Z4i (Zgg (ZXf s.2 z.2.2.1)) z.2.2.2).mono (by omega)⟩
theorem Zfi (h : SzB r) (hl : r.2.length ≤ 12) (hg : SzG l) : ∀ i, i ≤ l.length → sz 10000 (ms r l i)
  | 0, _ => Zvm.mono (by omega)
  | i + 1, hi => by
    have ih := Zfi h hl hg i (by omega)
    have q := q_sz h hl hg (i := i) (by omega)
    exact Zhi q.2 (Zhi q.1 ih)
theorem Zdm (hc : ZOb l = 0) {i : Nat} (hi : i < l.length) : (gR l i).2.2.2 ≠ 0 := by
  unfold ZOb at hc; split at hc
  · simp at hc
  · have := Zhn _ _ hc i hi; rw [Nat.zero_add] at this; unfold cG at this; split at this
    · simp at this
    · rename_i hh; intro h0; exact hh (.inr (.inl (by rw [h0]; exact Rat.le_refl)))
theorem ZPl (h : SzB r) (hl : r.2.length ≤ 12) (hg : SzG l) (hc : ZOb l = 0) (hn : l.length ≤ 20) : ZAf r l = some (ms r l l.length) := by
  unfold ZAf; refine Zvb (y := ms r l l.length) (Zvb (y := ms r l l.length) (ZKf (fun i => (ms r l i, (i : Int))) l.length rfl (by omega) (fun i hi => ?_) ?_) rfl) rfl
  · have g := ZJc (l := l) (d := ((0 : Rat), (0 : Rat), (0 : Rat), (0 : Rat))) hi; have z := hg.at hi; have s := Zvj h z.1 hl; have q := q_sz h hl hg hi; have m := Zfi h hl hg i (by omega); have hne := Zdm hc hi; have d1 := ZXf s.1 z.2.1; have d2 := ZXf s.2 z.2.2.1; simp only; rw [decide_eq_true (by omega), ZL, Zda hi, Zf, ← g, Z2l h z.1 hl, Zf, Z9m s.1 z.2.1 (by omega), Zf, Z9m s.2 z.2.2.1 (by omega), Zf]; refine Zvb (y := ms r l (i + 1)) (Zvb (y := ms r l (i + 1)) (ZKf (fun j => (match j with | 0 => ms r l i | 1 => mx (q1F r (gR l i)) (ms r l i) | _ => ms r l (i + 1), (j : Int))) 2 rfl (by omega) (fun j hj => ?_) ?_) rfl) ?_
    · rcases (show j = 0 ∨ j = 1 by omega) with rfl | rfl
      · have i0 : idx [(Zcc r (gR l i).1).1 - (gR l i).2.1, (Zcc r (gR l i).1).2 - (gR l i).2.2.1] ((0 : Nat) : Int) = some ((Zcc r (gR l i).1).1 - (gR l i).2.1) := rfl; have hq : Zsd ((Zcc r (gR l i).1).1 - (gR l i).2.1) / (gR l i).2.2.2 = q1F r (gR l i) := rfl; simp only; rw [decide_eq_true (by omega), ZL, i0, Zf, ZJm d1 (by omega), Zf, ZHj (Zgg d1) z.2.2.2 (by omega) hne, Zf, Zf, hq, ZGk q.1 m (by omega), Zf, gt_d]; unfold mx; by_cases hlt : ms r l i < q1F r (gR l i)
        · rw [decide_eq_true hlt, ZL, Zf, if_pos hlt]; rfl
        · rw [decide_eq_false hlt, ZK, Zf, if_neg hlt]; rfl
      · have i1 : idx [(Zcc r (gR l i).1).1 - (gR l i).2.1, (Zcc r (gR l i).1).2 - (gR l i).2.2.1] ((1 : Nat) : Int) = some ((Zcc r (gR l i).1).2 - (gR l i).2.2.1) := rfl; have hq : Zsd ((Zcc r (gR l i).1).2 - (gR l i).2.2.1) / (gR l i).2.2.2 = q2F r (gR l i) := rfl; have m1 := Zhi q.1 m; have em : ms r l (i + 1) = mx (q2F r (gR l i)) (mx (q1F r (gR l i)) (ms r l i)) := rfl; simp only; rw [decide_eq_true (by omega), ZL, i1, Zf, ZJm d2 (by omega), Zf, ZHj (Zgg d2) z.2.2.2 (by omega) hne, Zf, Zf, hq, ZGk q.2 m1 (by omega), Zf, gt_d, em]; generalize mx (q1F r (gR l i)) (ms r l i) = M at *; unfold mx; by_cases hlt : M < q2F r (gR l i)
        · rw [decide_eq_true hlt, ZL, Zf, if_pos hlt]; rfl
        · rw [decide_eq_false hlt, ZK, Zf, if_neg hlt]; rfl
    · simp only; rw [decide_eq_false (by omega), ZK]
    · rw [Zva (by omega) (by omega), Zf]; rfl
  · simp only; rw [decide_eq_false (by omega), ZK]
theorem ZXo (h : SzB r) (hl : r.2.length ≤ 12) (hg : SzG l) (hc : ZOb l = 0) (hn : l.length ≤ 20) : Z1f r l = some (ms r l l.length) := by
  unfold Z1f; have q0 : ZCc (0 : Int) = some 0 := rfl; rw [q0, Zf]; refine Zvb (y := ms r l l.length) (Zvb (y := ms r l l.length) (ZKf (fun i => (ms r l i, (i : Int))) l.length rfl (by omega) (fun i hi => ?_) ?_) rfl) rfl
  · have g := ZJc (l := l) (d := ((0 : Rat), (0 : Rat), (0 : Rat), (0 : Rat))) hi; have z := hg.at hi; have s := Zvj h z.1 hl; have q := q_sz h hl hg hi; have m := Zfi h hl hg i (by omega); have hne := Zdm hc hi; have d1 := ZXf s.1 z.2.1; have d2 := ZXf s.2 z.2.2.1; have m1 := Zhi q.1 m; have hq1 : Zsd ((Zcc r (gR l i).1).1 - (gR l i).2.1) / (gR l i).2.2.2 = q1F r (gR l i) := rfl; have hq2 : Zsd ((Zcc r (gR l i).1).2 - (gR l i).2.2.1) / (gR l i).2.2.2 = q2F r (gR l i) := rfl; have em : ms r l (i + 1) = mx (q2F r (gR l i)) (mx (q1F r (gR l i)) (ms r l i)) := rfl; simp only; rw [decide_eq_true (by omega), ZL, Zda hi, ← g]; simp only [Zf]; rw [Zdn h z.1 hl]; simp only [Zf]; rw [ZHl s.1 z.2.1 (by omega), Zf, ZEl d1 (by omega), Zf, Zri (Zgg d1) z.2.2.2 (by omega) hne, Zf]; simp only [Zf]; rw [ZHl s.2 z.2.2.1 (by omega), Zf, ZEl d2 (by omega), Zf, Zri (Zgg d2) z.2.2.2 (by omega) hne, Zf]; simp only [Zf]; rw [hq1, hq2, ZYk q.1 m (by omega), Zf, gt_d]; refine Zvb (y := mx (q1F r (gR l i)) (ms r l i)) ?_ ?_
    · unfold mx; by_cases hlt : ms r l i < q1F r (gR l i)
      · rw [decide_eq_true hlt, ZL, if_pos hlt]
      · rw [decide_eq_false hlt, ZK, if_neg hlt]
    rw [ZYk q.2 m1 (by omega), Zf, gt_d]; refine Zvb (y := ms r l (i + 1)) ?_ ?_
    · rw [em]; generalize mx (q1F r (gR l i)) (ms r l i) = M at *; unfold mx; by_cases hlt : M < q2F r (gR l i)
      · rw [decide_eq_true hlt, ZL, if_pos hlt]
      · rw [decide_eq_false hlt, ZK, if_neg hlt]
    rw [Zva (by omega) (by omega), Zf]; rfl
  · simp only; rw [decide_eq_false (by omega), ZK]
end
set_option maxRecDepth 100000
def toM (m : (Int × Int) × (Int × Int)) : P2 := (Zjb m.1, Zjb m.2)
def toB (r : (Int × Int) × List ((Int × Int) × (Int × Int))) : RBR := (Zjb r.1, r.2.map toM)
abbrev IR := Int × Int
def toP (x : IR × IR × IR × IR) : P4 := (Zjb x.1, Zjb x.2.1, Zjb x.2.2.1, Zjb x.2.2.2)
theorem Z1l {α β : Type} (f : α → β) (l : List α) {k : Nat} (h : k < l.length) : (l.take (k + 1)).map f = (l.take k).map f ++ [f l[k]] := by
  rw [List.take_succ_eq_append_getElem h, List.map_append]; rfl
theorem Zno (r : (Int × Int) × List ((Int × Int) × (Int × Int))) (hl : r.2.length ≤ 100) : Zph r = some (toB r, toB r) := by
  unfold Zph ZZc ZNc toB; rw [Zf, Zf]; refine Zvb (y := ((Zjb r.1, r.2.map toM), (Zjb r.1, r.2.map toM))) (Zvb (y := ((Zjb r.1, r.2.map toM), (Zjb r.1, r.2.map toM))) (ZKf (fun k => ((Zjb r.1, (r.2.take k).map toM), (Zjb r.1, (r.2.take k).map toM), (k : Int))) r.2.length rfl (by omega) (fun k hk => ?_) ?_) rfl) rfl
  · have e := Z1l toM r.2 hk; have hlen : ((r.2.take k).map toM).length = k := by simp; omega
    have r1 : Z5a 112 ((r.2.take k).map toM) = some () := by unfold Z5a; rw [if_pos (by omega)]
    have r2 : ∀ x, Z5a 112 ((r.2.take k).map toM ++ [x]) = some () := fun x => by unfold Z5a; rw [if_pos (by rw [List.length_append, hlen, List.length_singleton]; omega)]
    simp only [List.nil_append]; rw [decide_eq_true (by omega), ZL, Zda hk]; simp only [Zf]; rw [r1]; simp only [Zf]; rw [r2]; simp only [Zf]; rw [Zva (by omega) (by omega), Zf, e]; rfl
  · simp only; rw [decide_eq_false (by omega), ZK, List.take_length]
theorem set_at {α : Type} (A B : List α) (z v : α) : (A ++ z :: B).set A.length v = A ++ v :: B := by
  rw [List.set_append_right _ _ (Nat.le_refl _), Nat.sub_self]; rfl
def Zmd {α β : Type} (f : α → β) (z : β) (l : List α) (k : Nat) : List β := (l.take k).map f ++ List.replicate (l.length - k) z
theorem ZIn {α β : Type} (f : α → β) (z : β) (l : List α) {k : Nat} (h : k ≤ l.length) : (Zmd f z l k).length = l.length := by unfold Zmd; simp; omega
theorem Ztn {α β : Type} (f : α → β) (z : β) (l : List α) {k : Nat} (h : k < l.length) : (Zmd f z l k).set k (f l[k]) = Zmd f z l (k + 1) := by
  unfold Zmd; have e : l.length - k = (l.length - (k + 1)) + 1 := by omega
  have hl : ((l.take k).map f).length = k := by simp; omega
  rw [e, List.replicate_succ, Z1l f l h]; have := set_at ((l.take k).map f) (List.replicate (l.length - (k + 1)) z) z (f l[k]); rw [hl] at this; rw [this, List.append_assoc]; rfl
theorem Zmm {α β : Type} (f : α → β) (z : β) (l : List α) : Zmd f z l l.length = l.map f := by unfold Zmd; simp
theorem ZFl {α β γ : Type} (f : β → Option γ) (g : α → β) (h : α → γ) (e : ∀ x, f (g x) = some (h x)) : ∀ l : List α, mapO f (l.map g) = some (l.map h)
  | [] => rfl
  | x :: l => by
    rw [List.map_cons, mapO, e x, Zf, ZFl f g h e l, Zf]; rfl
def toO (x : IR × IR × IR × IR) : Option Rat × Option Rat × Option Rat × Option Rat := (some (Zjb x.1), some (Zjb x.2.1), some (Zjb x.2.2.1), some (Zjb x.2.2.2))
theorem ZRq (l : List (IR × IR × IR × IR)) (hl : l.length ≤ 100) : ZOg l = some (l.map toP, l.map toP) := by
  unfold ZOg; have hm : mk 224 (l.length : Int) (l.length : Int) = some () := by unfold mk; rw [if_pos ⟨by omega, by omega, by omega, by omega⟩]
  rw [hm]; simp only [Zf, Int.toNat_natCast]; unfold ZZc ZNc; refine Zvb (y := (l.map toP, l.map toO)) (Zvb (y := (l.map toP, l.map toO)) (ZKf (fun k => (Zmd toP (0, 0, 0, 0) l k, Zmd toO (none, none, none, none) l k, (k : Int))) l.length ?_ (by omega) (fun k hk => ?_) ?_) rfl) ?_
  · unfold Zmd; simp
  · have l1 := ZIn toP (0, 0, 0, 0) l (k := k) (by omega); have l2 := ZIn toO (none, none, none, none) l (k := k) (by omega); simp only [Zf, Int.toNat_natCast]; rw [decide_eq_true (by omega), ZL, Zda hk]; simp only [Zf]; rw [Zda (l := Zmd toP (0, 0, 0, 0) l k) (i := k) (by omega), Zf, Zda (l := Zmd toO (none, none, none, none) l k) (i := k) (by omega), Zf, Zva (by omega) (by omega), Zf, ← Ztn toP _ l hk, ← Ztn toO _ l hk]; rfl
  · simp only; rw [decide_eq_false (by omega), ZK, Zmm, Zmm]
  · simp only; rw [ZFl (coP coQ (coP coQ (coP coQ coQ))) toO toP (fun x => rfl) l, Zf]
theorem szB_of {r : (Int × Int) × List ((Int × Int) × (Int × Int))} (h1 : i64 r.1) (h2 : ∀ m ∈ r.2, i64 m.1 ∧ i64 m.2) : SzB (toB r) :=
  ⟨Zef h1, fun i hi => by
    unfold toB at hi ⊢
    simp only [List.getElem_map]
    have := h2 _ (List.getElem_mem (l := r.2) (n := i) (by simpa using hi))
    exact ⟨Zef this.1, Zef this.2⟩⟩
theorem szG_of {l : List (IR × IR × IR × IR)} (h : ∀ x ∈ l, i64 x.1 ∧ i64 x.2.1 ∧ i64 x.2.2.1 ∧ i64 x.2.2.2) : SzG (l.map toP) := fun i hi => by
  have hi' : i < l.length := by simpa using hi
  rw [List.getElem_map]
  obtain ⟨a, b, c, d⟩ := h _ (List.getElem_mem hi')
  exact ⟨Zef a, Zef b, Zef c, Zef d⟩
theorem Zoq {r : RBR} (h : ZUe r = 0) : r.2.length ≤ 12 := by
  unfold ZUe at h; split at h
  · simp at h
  · omega
theorem Zco (r : (Int × Int) × List ((Int × Int) × (Int × Int))) (w : Int × Int) (l : List (IR × IR × IR × IR)) (h1 : i64 r.1) (h2 : ∀ m ∈ r.2, i64 m.1 ∧ i64 m.2) (h3 : i64 w) (h4 : ∀ x ∈ l, i64 x.1 ∧ i64 x.2.1 ∧ i64 x.2.2.1 ∧ i64 x.2.2.2) : ZKj r w l = some true := by
  unfold ZKj; rw [Zfo]; by_cases n1 : 12 < r.2.length
  · rw [decide_eq_true (by omega), ZL, Zf, ZL, Zf]
  rw [decide_eq_false (by omega), ZK]; by_cases n2 : 14 < l.length
  · rw [decide_eq_true (by omega), Zf, ZL, Zf]
  rw [decide_eq_false (by omega), Zf, ZK, Zno _ (by simp only; omega), Zf, ZRq l (by omega), Zf]; have hB := szB_of h1 h2; have hG := szG_of h4; have hw := Zef h3; have lG : (l.map toP).length = l.length := List.length_map ..; have eB : toB ((r.1.1, r.1.2), r.2) = toB r := rfl; have ew : Zjb (w.1, w.2) = Zjb w := rfl; rw [eB]; unfold ZZc ZNc; simp only [Zf, ew]; generalize toB r = B at *; generalize l.map toP = G at *; generalize Zjb w = W at *; have q0 : Zcd (0 : Rat) = some true := rfl; have n0 : ((0 : Int) != 0) = false := rfl; have n1' : ((1 : Int) != 1) = false := rfl; unfold Z3g ZMi; rw [show (B.1, B.2) = B from rfl, ZBp hB, Zio, Z6q hB, ZVn]; simp only [Zf]; by_cases c : ZUe B = 0
  · have hl := Zoq c; simp only [c, n0, ZK, sg, rsg, Zf, Zzd]; have hms : ∀ {z : Option (Rat × Int)}, ZOb G = 0 → (bnd (ZAf B G) fun y68 => some (y68, (0 : Int))) = some (ms B G G.length, 0) := fun hc => by
      rw [ZPl hB hl hG hc (by omega), Zf]
    have hmis : ∃ M : Rat × Int, (ifb (ZOb G != 0) (some ((0 : Rat), ZOb G)) (bnd (ZAf B G) fun y68 => some (y68, (0 : Int)))) = some M ∧ (ZOb G ≠ 0 → M = (0, ZOb G)) ∧ (ZOb G = 0 → M = (ms B G G.length, 0)) := by
      by_cases g : ZOb G = 0
      · have : (ZOb G != 0) = false := by simpa using g
        exact ⟨_, by rw [this, ZK, ZPl hB hl hG g (by omega), Zf], fun h => absurd g h, fun _ => rfl⟩
      · have : (ZOb G != 0) = true := by simpa using g
        exact ⟨_, by rw [this, ZL], fun _ => rfl, fun h => absurd h g⟩
    obtain ⟨M, m1, m2, m3⟩ := hmis; rw [m1]; rw [Z2l hB hw hl, Zdn hB hw hl]; simp only [Zf]; have rest : (bnd (some (ZOb G)) fun y377 => ifb (y377 != ((0 : Int))) (bnd (ifb (M.2 == y377) (bnd (Zcd M.1) fun y404 => ifb (y404) (some true) (some false)) (some false)) (fun (x395 : Bool) => (some x395))) (bnd (ifb (M.2 == ((0 : Int))) (bnd (Z1f B G) fun y441 => bnd (Z1e M.1 y441) fun y450 => ifb (y450) (some true) (some false)) (some false)) (fun (x432 : Bool) => (some x432)))) = some true := by
      rw [Zf]; by_cases g : ZOb G = 0
      · have hg : (ZOb G != 0) = false := by simpa using g
        rw [m3 g, hg, ZK, ZXo hB hl hG g (by omega)]; simp only [Zf, beq_self_eq_true, ZL]; rw [Zbl (Zfi hB hl hG G.length (Nat.le_refl _)) (by omega), Zf, ZL, Zf]
      · have hg : (ZOb G != 0) = true := by simpa using g
        rw [m2 g, hg, ZL]; simp only [beq_self_eq_true, ZL, q0, Zf]
    have sr := Zvj hB hw hl; by_cases k : W < 0
    · rw [decide_eq_true k, ZL]; simp only [ZL, Zf, n1', ZK, q0, Bool.not_true]; rw [Zf] at rest; exact rest
    · rw [decide_eq_false k, ZK]; simp only [ZK, Zf, n0]; rw [Zbl sr.1 (by omega), Zbl sr.2 (by omega)]; simp only [Zf, Bool.not_true, ZK]; rw [Zf] at rest; exact rest
  · have b : (ZUe B != 0) = true := by simpa using c
    rw [b]; simp only [ZL, Zf, beq_self_eq_true, q0]
theorem Zul {α : Type} {A : Rep α} {v : Zd} {cs : List Value} {l : List α} (h : (ZD A).rel v cs l) {x : α} (hx : x ∈ l) : ∃ c, A.rel v c x := by
  obtain ⟨q, cap, rfl, h1, h2, h3⟩ := h; rcases h3 with rfl | ⟨b, off, c, T, fr, e, hb, hr⟩
  · cases hx
  · obtain ⟨i, hi, rfl⟩ := List.getElem_of_mem hx; exact ⟨_, ZZa hr (List.getElem?_eq_getElem hi)⟩
theorem ZPe {v : Zd} {c : List Value} {r : Int × Int} (h : Rep.rel (Zj (Zc .i64) (Zc .i64)) v c r) : i64 r := by
  obtain ⟨c1, c2, _, ⟨_, h1⟩, _, h2⟩ := h; exact ⟨Z6b.1 h1, Z6b.1 h2⟩
end Go.Eng
namespace Go.Eng
open Go.RowKit Go.WideShapes Go.ChangeShapes
theorem Z1q {P : Program} {t : TypeId} {f0 f1 f2 f3 : Field} {α β γ δ : Type} {A : Rep α} {B : Rep β} {C : Rep γ} {D : Rep δ} (ht : P.underlying t = some (.struct #[f0, f1, f2, f3])) (hA : ZWb P f0.type A) (hB : ZWb P f1.type B) (hC : ZWb P f2.type C) (hD : ZWb P f3.type D)
    (o0 : f0.offset = 0) (c0 : P.cellsOf f0.type = A.n) (o1 : f1.offset = A.n) (c1 : P.cellsOf f1.type = B.n) (o2 : f2.offset = A.n + B.n) (c2 : P.cellsOf f2.type = C.n) (o3 : f3.offset = A.n + B.n + C.n) (c3 : P.cellsOf f3.type = D.n) (ct : P.cellsOf t = A.n + B.n + C.n + D.n) : ZWb P t (Zj A (Zj B (Zj C D))) := by
  intro H enc W fuel cs x h; obtain ⟨xs, n, _, _, hl, hx, hf⟩ := DataW.trod_struct ht h; have hx : xs.length = 4 := hx; have h0 := hf 0 f0 rfl; have h1 := hf 1 f1 rfl; have h2 := hf 2 f2 rfl; have h3 := hf 3 f3 rfl; rw [List.getElem?_eq_getElem (by omega)] at h0 h1 h2 h3; rw [o0, c0, List.drop_zero] at h0; rw [o1, c1] at h1; rw [o2, c2] at h2; rw [o3, c3] at h3; obtain ⟨a, ha⟩ := hA _ _ _ _ _ _ h0; obtain ⟨b, hb⟩ := hB _ _ _ _ _ _ h1; obtain ⟨c, hc⟩ := hC _ _ _ _ _ _ h2; obtain ⟨d, hd⟩ := hD _ _ _ _ _ _ h3; rw [List.take_of_length_le (by rw [List.length_drop, hl, ct]; omega)] at hd; refine ⟨(a, b, c, d), cs.take A.n, cs.drop A.n, (List.take_append_drop _ _).symm, ha, (cs.drop A.n).take B.n, cs.drop (A.n + B.n), ?_, hb, (cs.drop (A.n + B.n)).take C.n, cs.drop (A.n + B.n + C.n), ?_, hc, hd⟩
  · rw [← List.drop_drop, List.take_append_drop]
  · have e := List.take_append_drop C.n (cs.drop (A.n + B.n)); rw [List.drop_drop] at e; exact e.symm
end Go.Eng
namespace Go.Eng
open Go.RowKit
theorem Zg {α : Type _} {a b : α} (h : some a = some b) : a = b := Option.some.inj h
theorem ZA (b : Bool) : b = true ∨ b = false := (Bool.eq_false_or_eq_true b)
theorem leT {a b c : Zd} (h : a.le b) (k : b.le c) : a.le c := Zd.le_trans h k
theorem leR (v : Zd) : v.le v := Zd.le_refl v
theorem Zr {P : Program} {Q : Exit → Act → World → Prop} {a : Act} {w : World} {id : Nat} {l : List Oper} (h : wpList P l.toArray Q l a w) : (Code.region id l.toArray false).wp P Q a w := wp_region_lit h
theorem Zi {P : Program} {Q : Exit → Act → World → Prop} {a : Act} {w : World} {x y : Code} (h : ∀ K : Act → World → Prop, (∀ a w, y.wp P Q a w → K a w) → x.wp P (Exit.then K Q) a w) : (Code.seq x y).wp P Q a w := wp_seq_k h
theorem Zo {α : Type} {A : Rep α} {v v' : Zd} {cs : List Value} {x : α} (hv : v.le v') (h : A.rel v cs x) : A.rel v' cs x := A.mono hv h
theorem ZS {α : Type} (A : Rep α) {v : Zd} {cs : List Value} {x : α} (h : A.rel v cs x) : cs.all Z1a = true := A.flat h
theorem Atm {v v' : Zd} {b off : Nat} {cs : List Value} (h : v.le v') (k : At v b off cs) : At v' b off cs := At.mono h k
end Go.Eng
namespace Go.Eng
open Go.Proofs Go.RowKit
theorem Z3c : ZLh Tryz.prog 224 2 2 := ⟨50, fun _ => by kernel_rfl, fun _ => by kernel_rfl⟩
theorem Zln : ZLh Tryz.prog 291 20 1 := ⟨5, fun _ => by kernel_rfl, fun _ => by kernel_rfl⟩
theorem Zrd : ZQd Tryz.prog 211 212 .u64 .u32 := fun _ _ => by kernel_rfl
theorem Znn : ZQd Tryz.prog 211 3 .u64 .i64 := fun _ _ => by kernel_rfl
theorem Z2m : ZQd Tryz.prog 211 5 .u64 .u8 := fun _ _ => by kernel_rfl
theorem ZKn : ZQd Tryz.prog 212 2 .u32 .i64 := fun _ _ => by kernel_rfl
theorem ZOc : ZQd Tryz.prog 212 211 .u32 .u64 := fun _ _ => by kernel_rfl
theorem ZSi : ZQd Tryz.prog 2 211 .i64 .u64 := fun _ _ => by kernel_rfl
theorem Z2p : ZQd Tryz.prog 2 212 .i64 .u32 := fun _ _ => by kernel_rfl
theorem ZFq : ZQd Tryz.prog 3 211 .i64 .u64 := fun _ _ => by kernel_rfl
theorem ZUk : ZQd Tryz.prog 3 253 .i64 .u64 := fun _ _ => by kernel_rfl
theorem k_cv5_3 : ZQd Tryz.prog 5 3 .u8 .i64 := fun _ _ => by kernel_rfl
theorem ZAj : Elem Tryz.prog 149 218 6 112 (Value.agg #[Value.bool false, Value.slice none 0 0, Value.slice none 0 0, Value.bool false, Value.slice none 0 0, Value.slice none 0 0]) := ⟨Tryz.underlying149, by kernel_rfl, rfl, by decide⟩
theorem Zgl : Elem Tryz.prog 152 226 6 112 (Value.agg #[Value.bool false, Value.slice none 0 0, Value.slice none 0 0, Value.bool false, Value.slice none 0 0, Value.slice none 0 0]) := ⟨Tryz.underlying152, by kernel_rfl, rfl, by decide⟩
theorem Zwm : Elem Tryz.prog 157 230 12 224 (Value.agg #[Value.bool false, Value.slice none 0 0, Value.slice none 0 0, Value.bool false, Value.slice none 0 0, Value.slice none 0 0, Value.bool false, Value.slice none 0 0, Value.slice none 0 0, Value.bool false, Value.slice none 0 0, Value.slice none 0 0]) := ⟨Tryz.underlying157, by kernel_rfl, rfl, by decide⟩
theorem ZFk : Elem Tryz.prog 158 232 12 224 (Value.agg #[Value.bool false, Value.slice none 0 0, Value.slice none 0 0, Value.bool false, Value.slice none 0 0, Value.slice none 0 0, Value.bool false, Value.slice none 0 0, Value.slice none 0 0, Value.bool false, Value.slice none 0 0, Value.slice none 0 0]) := ⟨Tryz.underlying158, by kernel_rfl, rfl, by decide⟩
theorem ZBm : Elem Tryz.prog 257 287 6 112 (Value.agg #[Value.bool false, Value.slice none 0 0, Value.slice none 0 0, Value.bool false, Value.slice none 0 0, Value.slice none 0 0]) := ⟨Tryz.underlying257, by kernel_rfl, rfl, by decide⟩
theorem ZSm : Elem Tryz.prog 263 9 1 16 (Value.string (Z5 [])) := ⟨Tryz.underlying263, by kernel_rfl, rfl, by decide⟩
theorem Z0c : Elem Tryz.prog 30 211 1 8 (Value.int IntKind.u64 0) := ⟨Tryz.underlying30, by kernel_rfl, rfl, by decide⟩
theorem ZBb : Elem Tryz.prog 40 212 1 4 (Value.int IntKind.u32 0) := ⟨Tryz.underlying40, by kernel_rfl, rfl, by decide⟩
theorem k_en100 : ZT Tryz.prog 100 := fun _ _ => by kernel_rfl
theorem Zff : ZT Tryz.prog 101 := fun _ _ => by kernel_rfl
theorem Zlh : ZT Tryz.prog 102 := fun _ _ => by kernel_rfl
theorem Zrh : ZT Tryz.prog 103 := fun _ _ => by kernel_rfl
theorem ZAe : ZT Tryz.prog 104 := fun _ _ => by kernel_rfl
theorem k_en105 : ZT Tryz.prog 105 := fun _ _ => by kernel_rfl
theorem k_en108 : ZT Tryz.prog 108 := fun _ _ => by kernel_rfl
theorem Z5j : ZT Tryz.prog 109 := fun _ _ => by kernel_rfl
theorem Zee : ZT Tryz.prog 110 := fun _ _ => by kernel_rfl
theorem Z3e : ZT Tryz.prog 111 := fun _ _ => by kernel_rfl
theorem ZKd : ZT Tryz.prog 112 := fun _ _ => by kernel_rfl
theorem k_en113 : ZT Tryz.prog 113 := fun _ _ => by kernel_rfl
theorem ZKh : ZT Tryz.prog 114 := fun _ _ => by kernel_rfl
theorem Zdj : ZT Tryz.prog 115 := fun _ _ => by kernel_rfl
theorem Zji : ZT Tryz.prog 126 := fun _ _ => by kernel_rfl
theorem k_en127 : ZT Tryz.prog 127 := fun _ _ => by kernel_rfl
theorem k_en130 : ZT Tryz.prog 130 := fun _ _ => by kernel_rfl
theorem ZOl : ZT Tryz.prog 131 := fun _ _ => by kernel_rfl
theorem Zwl : ZT Tryz.prog 132 := fun _ _ => by kernel_rfl
theorem k_en133 : ZT Tryz.prog 133 := fun _ _ => by kernel_rfl
theorem k_en134 : ZT Tryz.prog 134 := fun _ _ => by kernel_rfl
theorem ZTh : ZT Tryz.prog 135 := fun _ _ => by kernel_rfl
theorem Zhg : ZT Tryz.prog 136 := fun _ _ => by kernel_rfl
theorem Zem : ZT Tryz.prog 137 := fun _ _ => by kernel_rfl
theorem Zfm : ZT Tryz.prog 138 := fun _ _ => by kernel_rfl
theorem Z7f : ZT Tryz.prog 139 := fun _ _ => by kernel_rfl
theorem k_en142 : ZT Tryz.prog 142 := fun _ _ => by kernel_rfl
theorem ZEn : ZT Tryz.prog 143 := fun _ _ => by kernel_rfl
theorem k_en144 : ZT Tryz.prog 144 := fun _ _ => by kernel_rfl
theorem Z1i : ZT Tryz.prog 145 := fun _ _ => by kernel_rfl
theorem Zfk : ZT Tryz.prog 146 := fun _ _ => by kernel_rfl
theorem Z4j : ZT Tryz.prog 147 := fun _ _ => by kernel_rfl
theorem Z5d : ZT Tryz.prog 149 := fun _ _ => by kernel_rfl
theorem k_en150 : ZT Tryz.prog 150 := fun _ _ => by kernel_rfl
theorem Zzm : ZT Tryz.prog 151 := fun _ _ => by kernel_rfl
theorem k_en154 : ZT Tryz.prog 154 := fun _ _ => by kernel_rfl
theorem Z8j : ZT Tryz.prog 155 := fun _ _ => by kernel_rfl
theorem Zue : ZT Tryz.prog 156 := fun _ _ => by kernel_rfl
theorem k_en163 : ZT Tryz.prog 163 := fun _ _ => by kernel_rfl
theorem k_en164 : ZT Tryz.prog 164 := fun _ _ => by kernel_rfl
theorem k_en165 : ZT Tryz.prog 165 := fun _ _ => by kernel_rfl
theorem ZQl : ZT Tryz.prog 166 := fun _ _ => by kernel_rfl
theorem ZGm : ZT Tryz.prog 167 := fun _ _ => by kernel_rfl
theorem k_en168 : ZT Tryz.prog 168 := fun _ _ => by kernel_rfl
theorem k_en169 : ZT Tryz.prog 169 := fun _ _ => by kernel_rfl
theorem k_en170 : ZT Tryz.prog 170 := fun _ _ => by kernel_rfl
theorem k_en171 : ZT Tryz.prog 171 := fun _ _ => by kernel_rfl
theorem k_en172 : ZT Tryz.prog 172 := fun _ _ => by kernel_rfl
theorem ZRl : ZT Tryz.prog 174 := fun _ _ => by kernel_rfl
theorem k_en175 : ZT Tryz.prog 175 := fun _ _ => by kernel_rfl
theorem ZVm : ZT Tryz.prog 176 := fun _ _ => by kernel_rfl
theorem Zfj : ZT Tryz.prog 177 := fun _ _ => by kernel_rfl
theorem k_en178 : ZT Tryz.prog 178 := fun _ _ => by kernel_rfl
theorem k_en179 : ZT Tryz.prog 179 := fun _ _ => by kernel_rfl
theorem k_en181 : ZT Tryz.prog 181 := fun _ _ => by kernel_rfl
theorem ZKl : ZT Tryz.prog 182 := fun _ _ => by kernel_rfl
theorem k_en183 : ZT Tryz.prog 183 := fun _ _ => by kernel_rfl
theorem ZDl : ZT Tryz.prog 186 := fun _ _ => by kernel_rfl
theorem k_en187 : ZT Tryz.prog 187 := fun _ _ => by kernel_rfl
theorem k_en188 : ZT Tryz.prog 188 := fun _ _ => by kernel_rfl
theorem Ztk : ZT Tryz.prog 189 := fun _ _ => by kernel_rfl
theorem Zsl : ZT Tryz.prog 190 := fun _ _ => by kernel_rfl
theorem k_en196 : ZT Tryz.prog 196 := fun _ _ => by kernel_rfl
theorem k_en197 : ZT Tryz.prog 197 := fun _ _ => by kernel_rfl
theorem k_en199 : ZT Tryz.prog 199 := fun _ _ => by kernel_rfl
theorem Z0e : ZT Tryz.prog 20 := fun _ _ => by kernel_rfl
theorem Zki : ZT Tryz.prog 204 := fun _ _ => by kernel_rfl
theorem Zch : ZT Tryz.prog 205 := fun _ _ => by kernel_rfl
theorem k_en206 : ZT Tryz.prog 206 := fun _ _ => by kernel_rfl
theorem k_en207 : ZT Tryz.prog 207 := fun _ _ => by kernel_rfl
theorem ZKm : ZT Tryz.prog 209 := fun _ _ => by kernel_rfl
theorem ZDc : ZT Tryz.prog 21 := fun _ _ => by kernel_rfl
theorem k_en211 : ZT Tryz.prog 211 := fun _ _ => by kernel_rfl
theorem k_en213 : ZT Tryz.prog 213 := fun _ _ => by kernel_rfl
theorem Zqm : ZT Tryz.prog 216 := fun _ _ => by kernel_rfl
theorem k_en217 : ZT Tryz.prog 217 := fun _ _ => by kernel_rfl
theorem Zan : ZT Tryz.prog 218 := fun _ _ => by kernel_rfl
theorem Zmh : ZT Tryz.prog 25 := fun _ _ => by kernel_rfl
theorem ZOe : ZT Tryz.prog 28 := fun _ _ => by kernel_rfl
theorem Zdi : ZT Tryz.prog 29 := fun _ _ => by kernel_rfl
theorem Zfd : ZT Tryz.prog 30 := fun _ _ => by kernel_rfl
theorem ZFf : ZT Tryz.prog 31 := fun _ _ => by kernel_rfl
theorem ZFe : ZT Tryz.prog 35 := fun _ _ => by kernel_rfl
theorem Zjc : ZT Tryz.prog 37 := fun _ _ => by kernel_rfl
theorem ZXh : ZT Tryz.prog 38 := fun _ _ => by kernel_rfl
theorem Zon : ZT Tryz.prog 39 := fun _ _ => by kernel_rfl
theorem ZTk : ZT Tryz.prog 40 := fun _ _ => by kernel_rfl
theorem Zpf : ZT Tryz.prog 41 := fun _ _ => by kernel_rfl
theorem ZEe : ZT Tryz.prog 61 := fun _ _ => by kernel_rfl
theorem Zjh : ZT Tryz.prog 62 := fun _ _ => by kernel_rfl
theorem Z8b : ZT Tryz.prog 64 := fun _ _ => by kernel_rfl
theorem ZBi : ZT Tryz.prog 71 := fun _ _ => by kernel_rfl
theorem k_en72 : ZT Tryz.prog 72 := fun _ _ => by kernel_rfl
theorem k_en73 : ZT Tryz.prog 73 := fun _ _ => by kernel_rfl
theorem ZZm : ZT Tryz.prog 74 := fun _ _ => by kernel_rfl
theorem k_en75 : ZT Tryz.prog 75 := fun _ _ => by kernel_rfl
theorem k_en76 : ZT Tryz.prog 76 := fun _ _ => by kernel_rfl
theorem ZSf : ZT Tryz.prog 77 := fun _ _ => by kernel_rfl
theorem k_en78 : ZT Tryz.prog 78 := fun _ _ => by kernel_rfl
theorem Zcm : ZT Tryz.prog 79 := fun _ _ => by kernel_rfl
theorem Zwf : ZT Tryz.prog 80 := fun _ _ => by kernel_rfl
theorem Z3d : ZT Tryz.prog 85 := fun _ _ => by kernel_rfl
theorem Zfl : ZT Tryz.prog 87 := fun _ _ => by kernel_rfl
theorem Zgi : ZT Tryz.prog 88 := fun _ _ => by kernel_rfl
theorem Zjf : ZT Tryz.prog 93 := fun _ _ => by kernel_rfl
theorem ZXd : ZT Tryz.prog 94 := fun _ _ => by kernel_rfl
theorem k_en97 : ZT Tryz.prog 97 := fun _ _ => by kernel_rfl
theorem k_en98 : ZT Tryz.prog 98 := fun _ _ => by kernel_rfl
theorem Z2g : ZT Tryz.prog 99 := fun _ _ => by kernel_rfl
theorem Z8l : EqB Tryz.prog 4 := fun _ _ _ => by kernel_rfl
theorem Z7g : ZZd Tryz.prog 148 add64Entry := ⟨_, Tryz.func148, by kernel_rfl, by kernel_rfl, by kernel_rfl, by kernel_rfl⟩
theorem Zen : ZZd Tryz.prog 180 Z8k := ⟨_, Tryz.func180, by kernel_rfl, by kernel_rfl, by kernel_rfl, by kernel_rfl⟩
theorem Z6g : ZZd Tryz.prog 214 Extern.MathFloatBits.float64frombits := ⟨_, Tryz.func214, by kernel_rfl, by kernel_rfl, by kernel_rfl, by kernel_rfl⟩
theorem ZYg : ZZd Tryz.prog 215 Extern.MathFloatBits.float64bits := ⟨_, Tryz.func215, by kernel_rfl, by kernel_rfl, by kernel_rfl, by kernel_rfl⟩
theorem Zge : ZYa Tryz.prog 147 0 0 := fun _ _ _ => by kernel_rfl
theorem Zdk : ZYa Tryz.prog 147 1 2 := fun _ _ _ => by kernel_rfl
theorem ZAl : ZYa Tryz.prog 151 0 0 := fun _ _ _ => by kernel_rfl
theorem Zof : ZYa Tryz.prog 151 1 3 := fun _ _ _ => by kernel_rfl
theorem ZUg : ZYa Tryz.prog 154 0 0 := fun _ _ _ => by kernel_rfl
theorem Zsb : ZYa Tryz.prog 154 1 3 := fun _ _ _ => by kernel_rfl
theorem Z8f : ZYa Tryz.prog 218 0 0 := fun _ _ _ => by kernel_rfl
theorem ZUj : ZYa Tryz.prog 218 1 3 := fun _ _ _ => by kernel_rfl
theorem ZFp : ZYa Tryz.prog 222 0 0 := fun _ _ _ => by kernel_rfl
theorem Z3q : ZYa Tryz.prog 222 1 1 := fun _ _ _ => by kernel_rfl
theorem ZNj : ZYa Tryz.prog 226 0 0 := fun _ _ _ => by kernel_rfl
theorem ZYc : ZYa Tryz.prog 226 1 3 := fun _ _ _ => by kernel_rfl
theorem ZGl : ZYa Tryz.prog 228 0 0 := fun _ _ _ => by kernel_rfl
theorem Z7i : ZYa Tryz.prog 228 1 2 := fun _ _ _ => by kernel_rfl
theorem ZVf : ZYa Tryz.prog 228 2 4 := fun _ _ _ => by kernel_rfl
theorem Zdf : ZYa Tryz.prog 228 3 6 := fun _ _ _ => by kernel_rfl
theorem Zzg : ZYa Tryz.prog 230 0 0 := fun _ _ _ => by kernel_rfl
theorem Z4k : ZYa Tryz.prog 230 1 3 := fun _ _ _ => by kernel_rfl
theorem Z2k : ZYa Tryz.prog 230 2 6 := fun _ _ _ => by kernel_rfl
theorem Zye : ZYa Tryz.prog 230 3 9 := fun _ _ _ => by kernel_rfl
theorem ZKc : ZYa Tryz.prog 232 0 0 := fun _ _ _ => by kernel_rfl
theorem Zmf : ZYa Tryz.prog 232 1 3 := fun _ _ _ => by kernel_rfl
theorem Zjg : ZYa Tryz.prog 232 2 6 := fun _ _ _ => by kernel_rfl
theorem Zwb : ZYa Tryz.prog 232 3 9 := fun _ _ _ => by kernel_rfl
theorem Zqc : ZYa Tryz.prog 287 0 0 := fun _ _ _ => by kernel_rfl
theorem Zlc : ZYa Tryz.prog 287 1 3 := fun _ _ _ => by kernel_rfl
theorem Zyb : ZYa Tryz.prog 32 0 0 := fun _ _ _ => by kernel_rfl
theorem Zlb : ZYa Tryz.prog 32 1 1 := fun _ _ _ => by kernel_rfl
theorem ZSb : ZYa Tryz.prog 34 0 0 := fun _ _ _ => by kernel_rfl
theorem Zbc : ZYa Tryz.prog 34 1 2 := fun _ _ _ => by kernel_rfl
theorem ZTa : ZYa Tryz.prog 42 0 0 := fun _ _ _ => by kernel_rfl
theorem Zvc : ZYa Tryz.prog 42 1 1 := fun _ _ _ => by kernel_rfl
theorem ZZk : ZYa Tryz.prog 42 2 2 := fun _ _ _ => by kernel_rfl
theorem ZUi : ZYa Tryz.prog 50 0 0 := fun _ _ _ => by kernel_rfl
theorem ZSj : ZYa Tryz.prog 50 1 1 := fun _ _ _ => by kernel_rfl
theorem k_ix262 : Ix2 Tryz.prog 262 := fun _ _ _ _ _ _ _ => ⟨by kernel_rfl, by kernel_rfl⟩
theorem Z7 : Tryz.prog.follows .mixedOrders = true := by kernel_rfl
theorem ZIc : NeB Tryz.prog 4 := fun _ _ _ => by kernel_rfl
theorem ZWi : Zfc Tryz.prog 145 224 4 := ⟨fun _ => by kernel_rfl, fun _ => by kernel_rfl⟩
theorem Z4c : Zfc Tryz.prog 148 228 8 := ⟨fun _ => by kernel_rfl, fun _ => by kernel_rfl⟩
theorem ZTf : Zfc Tryz.prog 149 218 6 := ⟨fun _ => by kernel_rfl, fun _ => by kernel_rfl⟩
theorem ZHb : Zfc Tryz.prog 152 226 6 := ⟨fun _ => by kernel_rfl, fun _ => by kernel_rfl⟩
theorem Z4e : Zfc Tryz.prog 157 230 12 := ⟨fun _ => by kernel_rfl, fun _ => by kernel_rfl⟩
theorem Zsa : Zfc Tryz.prog 158 232 12 := ⟨fun _ => by kernel_rfl, fun _ => by kernel_rfl⟩
theorem ZBg : Zfc Tryz.prog 223 222 2 := ⟨fun _ => by kernel_rfl, fun _ => by kernel_rfl⟩
theorem ZWc : Zfc Tryz.prog 257 287 6 := ⟨fun _ => by kernel_rfl, fun _ => by kernel_rfl⟩
theorem Zgk : Zfc Tryz.prog 263 9 1 := ⟨fun _ => by kernel_rfl, fun _ => by kernel_rfl⟩
theorem ZV : Zfc Tryz.prog 30 211 1 := ⟨fun _ => by kernel_rfl, fun _ => by kernel_rfl⟩
theorem Zea : Zfc Tryz.prog 40 212 1 := ⟨fun _ => by kernel_rfl, fun _ => by kernel_rfl⟩
theorem Zok : Sized Tryz.prog 145 1 false := ⟨fun _ => by kernel_rfl, fun _ => by kernel_rfl⟩
theorem k_sz147 : Sized Tryz.prog 147 3 true := ⟨fun _ => by kernel_rfl, fun _ => by kernel_rfl⟩
theorem Zif : Sized Tryz.prog 149 1 false := ⟨fun _ => by kernel_rfl, fun _ => by kernel_rfl⟩
theorem ZCb : Sized Tryz.prog 151 4 true := ⟨fun _ => by kernel_rfl, fun _ => by kernel_rfl⟩
theorem Ztb : Sized Tryz.prog 152 1 false := ⟨fun _ => by kernel_rfl, fun _ => by kernel_rfl⟩
theorem Zmb : Sized Tryz.prog 154 4 true := ⟨fun _ => by kernel_rfl, fun _ => by kernel_rfl⟩
theorem ZNe : Sized Tryz.prog 2 1 false := ⟨fun _ => by kernel_rfl, fun _ => by kernel_rfl⟩
theorem ZFa : Sized Tryz.prog 211 1 false := ⟨fun _ => by kernel_rfl, fun _ => by kernel_rfl⟩
theorem Zob : Sized Tryz.prog 212 1 false := ⟨fun _ => by kernel_rfl, fun _ => by kernel_rfl⟩
theorem Zai : Sized Tryz.prog 218 6 true := ⟨fun _ => by kernel_rfl, fun _ => by kernel_rfl⟩
theorem Zmn : Sized Tryz.prog 220 1 false := ⟨fun _ => by kernel_rfl, fun _ => by kernel_rfl⟩
theorem ZXl : Sized Tryz.prog 222 2 true := ⟨fun _ => by kernel_rfl, fun _ => by kernel_rfl⟩
theorem ZQm : Sized Tryz.prog 224 4 true := ⟨fun _ => by kernel_rfl, fun _ => by kernel_rfl⟩
theorem Z0l : Sized Tryz.prog 228 8 true := ⟨fun _ => by kernel_rfl, fun _ => by kernel_rfl⟩
theorem ZRh : Sized Tryz.prog 230 12 true := ⟨fun _ => by kernel_rfl, fun _ => by kernel_rfl⟩
theorem k_sz232 : Sized Tryz.prog 232 12 true := ⟨fun _ => by kernel_rfl, fun _ => by kernel_rfl⟩
theorem Zic : Sized Tryz.prog 287 6 true := ⟨fun _ => by kernel_rfl, fun _ => by kernel_rfl⟩
theorem ZNa : Sized Tryz.prog 30 1 false := ⟨fun _ => by kernel_rfl, fun _ => by kernel_rfl⟩
theorem ZPa : Sized Tryz.prog 32 2 true := ⟨fun _ => by kernel_rfl, fun _ => by kernel_rfl⟩
theorem Zu : Sized Tryz.prog 34 3 true := ⟨fun _ => by kernel_rfl, fun _ => by kernel_rfl⟩
theorem Zla : Sized Tryz.prog 4 1 false := ⟨fun _ => by kernel_rfl, fun _ => by kernel_rfl⟩
theorem ZQb : Sized Tryz.prog 40 1 false := ⟨fun _ => by kernel_rfl, fun _ => by kernel_rfl⟩
theorem Zv : Sized Tryz.prog 42 3 true := ⟨fun _ => by kernel_rfl, fun _ => by kernel_rfl⟩
theorem k_sz5 : Sized Tryz.prog 5 1 false := ⟨fun _ => by kernel_rfl, fun _ => by kernel_rfl⟩
theorem Zya : Sized Tryz.prog 50 2 true := ⟨fun _ => by kernel_rfl, fun _ => by kernel_rfl⟩
theorem k_sz9 : Sized Tryz.prog 9 1 false := ⟨fun _ => by kernel_rfl, fun _ => by kernel_rfl⟩
theorem ZFj : ∀ w, (zeroValue 151).run Tryz.prog w = .ok (Value.agg #[Value.bool false, Value.slice none 0 0, Value.slice none 0 0, Value.slice none 0 0]) w := fun _ => by kernel_rfl
theorem Zel : ∀ w, (zeroValue 154).run Tryz.prog w = .ok (Value.agg #[Value.bool false, Value.slice none 0 0, Value.slice none 0 0, Value.slice none 0 0]) w := fun _ => by kernel_rfl
theorem Z3l : ∀ w, (zeroValue 218).run Tryz.prog w = .ok (Value.agg #[Value.bool false, Value.slice none 0 0, Value.slice none 0 0, Value.bool false, Value.slice none 0 0, Value.slice none 0 0]) w := fun _ => by kernel_rfl
theorem k_zv222 : ∀ w, (zeroValue 222).run Tryz.prog w = .ok (Value.agg #[Value.float FloatKind.f32 0, Value.float FloatKind.f32 0]) w := fun _ => by kernel_rfl
theorem k_zv224 : ∀ w, (zeroValue 224).run Tryz.prog w = .ok (Value.agg #[Value.int IntKind.i64 0, Value.int IntKind.i64 0, Value.int IntKind.i64 0, Value.int IntKind.i64 0]) w := fun _ => by kernel_rfl
theorem k_zv228 : ∀ w, (zeroValue 228).run Tryz.prog w = .ok (Value.agg #[Value.int IntKind.i64 0, Value.int IntKind.i64 0, Value.int IntKind.i64 0, Value.int IntKind.i64 0, Value.int IntKind.i64 0, Value.int IntKind.i64 0, Value.int IntKind.i64 0, Value.int IntKind.i64 0]) w := fun _ => by kernel_rfl
theorem Zol : ∀ w, (zeroValue 230).run Tryz.prog w = .ok (Value.agg #[Value.bool false, Value.slice none 0 0, Value.slice none 0 0, Value.bool false, Value.slice none 0 0, Value.slice none 0 0, Value.bool false, Value.slice none 0 0, Value.slice none 0 0, Value.bool false, Value.slice none 0 0, Value.slice none 0 0]) w := fun _ => by kernel_rfl
theorem k_zv270 : ∀ w, (zeroValue 270).run Tryz.prog w = .ok (Value.agg #[Value.pointer none, Value.slice none 0 0]) w := fun _ => by kernel_rfl
theorem k_zv287 : ∀ w, (zeroValue 287).run Tryz.prog w = .ok (Value.agg #[Value.bool false, Value.slice none 0 0, Value.slice none 0 0, Value.bool false, Value.slice none 0 0, Value.slice none 0 0]) w := fun _ => by kernel_rfl
theorem k_zv291 : ∀ w, (zeroValue 291).run Tryz.prog w = .ok (Value.agg #[Value.int IntKind.u8 0, Value.int IntKind.u8 0, Value.int IntKind.u8 0, Value.int IntKind.u8 0, Value.int IntKind.u8 0, Value.int IntKind.u8 0, Value.int IntKind.u8 0, Value.int IntKind.u8 0, Value.int IntKind.u8 0, Value.int IntKind.u8 0, Value.int IntKind.u8 0, Value.int IntKind.u8 0, Value.int IntKind.u8 0, Value.int IntKind.u8 0, Value.int IntKind.u8 0, Value.int IntKind.u8 0, Value.int IntKind.u8 0, Value.int IntKind.u8 0, Value.int IntKind.u8 0, Value.int IntKind.u8 0]) w := fun _ => by kernel_rfl
theorem Zxd : ∀ w, (zeroValue 32).run Tryz.prog w = .ok (Value.agg #[Value.bool false, Value.slice none 0 0]) w := fun _ => by kernel_rfl
theorem Zoa : ∀ w, (zeroValue 34).run Tryz.prog w = .ok (Value.agg #[Value.bool false, Value.slice none 0 0, Value.slice none 0 0]) w := fun _ => by kernel_rfl
theorem Zna : ∀ w, (zeroValue 42).run Tryz.prog w = .ok (Value.agg #[Value.bool false, Value.slice none 0 0, Value.slice none 0 0]) w := fun _ => by kernel_rfl
theorem cut_w {e : World} {d : Zd} (hv : VIn d e) {E : List Value} {a : (List Int)} (F : Rep.rel (ZD (Zc .u64)) d E a) {z : (List Int)} (H : ZHi a = some z) : Ret Tryz.prog 149 #[(ZD (Zc .u64)).val E] e d (fun y v'=>∃ G,y = (ZD (Zc .u64)).val G ∧ (ZD (Zc .u64)).rel v' G z):=by
  obtain ⟨M,N,O,rfl⟩:=Z7a F;refine ZW (K:=21) (args:=[.slice M (N) O]) hv Tryz.func149 rfl rfl zl fun f S=>?_;unfold ZHi at H;refine sr ?_;have S:=S.nilLoc 211 1;refine ov S rfl (Zua S (y:=.slice (mkA none) 0 0) rfl) fun f S=>oe (Zi fun _ P=>?_);obtain ⟨Q,R,T⟩:=Za H;refine ZR (fun f w=>∃ (B : (List Int)) (j : Option Addr) (k : Nat) (l : Nat) (m : Zd),B = Q ∧ Zd.le d m ∧ St 21 e d [(0,.slice j (k) l)] [] m f w ∧ Rep.rel (ZD (Zc .u64)) m [.slice j (k) l] B) (fun _ U=>?_) ?_
  · have H:=R;refine wp_block ?_;obtain ⟨am,V,W⟩:=Za H;have S:=S.reorder (ℓ':=[]) [] rfl (by decide);refine ZBa V (fun X f w=>∃ (n : (List Int)) (o : Option Addr) (q : Nat) (s : Nat) (g : Zd),n = X ∧ Zd.le d g ∧ St 21 e d [(0,.slice o (q) s)] [] g f w ∧ Rep.rel (ZD (Zc .u64)) g [.slice o (q) s] n) ⟨_,_,_,_,_,rfl,(leR _),(S.fr' rfl),F⟩ ?_;rintro _ f w st ⟨n,o,q,s,g,hq,I,S,c⟩ H an Y Z;subst hq;refine Zi fun _ aa=>Zi fun _ ab=>?_;obtain ⟨ac,ad,ae⟩:=Za H;refine ZR (fun f w=>∃ (u : Bool) (C : Zd),u = ac ∧ Zd.le g C ∧ St 21 e d [(0,.slice o (q) s),(14,.bool (u))] [] C f w) (fun _ J=>?_) ?_
    · have H:=ad;rcases ZA (decide ((0 : Int) < (n.length : Int))) with h | h
      · have H:=Zz H h;obtain ⟨ao,af,H⟩:=Za H;obtain ⟨ap,D,H⟩:=Za H;refine Zr (mv S rfl fun f S=>ov S rfl (ZP S (Zw c) rfl rfl ZV) fun f S=>ov S rfl (Zk S rfl rfl ZCa) fun f S=>?_);have S:=S.bool (t:=5) rfl h;refine mv S rfl fun f S=>opy S rfl rfl rfl rfl (Zs S rfl) fun f S=>opy S rfl rfl rfl rfl (Zs S rfl) fun f S=>opy S rfl rfl rfl rfl (ZP S (Zw c) rfl rfl ZV) fun f S=>opy S rfl rfl rfl rfl (Zk S rfl rfl (ZEa af)) fun f S=>?_;obtain ⟨_,aq,ar,au,rfl,ag,ah⟩:=Zma c (Zh D).2.1;obtain ⟨rfl,av⟩:=ah;refine opy S rfl rfl rfl rfl (ZH S rfl rfl ZV (Zh D).1 (ltI (Zw c) (Zh D).2.2.1)) fun f S=>opy S rfl rfl rfl rfl (Zpa S rfl ZFa (S.view ag)) fun f S=>opy S rfl rfl rfl rfl (Zk S rfl rfl Zwa) fun f S=>ov S rfl (ZJ S (b:=true) rfl rfl) fun f S=>Zq ?_;obtain rfl:=Zg H;refine Zb (J _ _ ⟨_,_,rfl,(leR _),(S.fr' rfl)⟩)
      have H:=Zy H h;refine Zr (mv S rfl fun f S=>ov S rfl (ZP S (Zw c) rfl rfl ZV) fun f S=>ov S rfl (Zk S rfl rfl ZCa) fun f S=>?_);have S:=S.bool (t:=5) rfl h;refine mv S rfl fun f S=>opn S rfl rfl rfl rfl fun f S=>opn S rfl rfl rfl rfl fun f S=>opn S rfl rfl rfl rfl fun f S=>opn S rfl rfl rfl rfl fun f S=>opn S rfl rfl rfl rfl fun f S=>opn S rfl rfl rfl rfl fun f S=>opn S rfl rfl rfl rfl fun f S=>ov S rfl (ZJ S (b:=false) rfl rfl) fun f S=>Zq ?_;obtain rfl:=Zg H;refine Zb (J _ _ ⟨_,_,rfl,(leR _),(S.fr' rfl)⟩)
    rintro f w ⟨u,C,hq,v,S⟩;subst hq;have H:=ae;refine Zb (ab _ _ ?_);rcases ZA (u) with i | i
    · have H:=Zz H i;refine ZF S rfl i (wp_skip (Zb (aa _ _ (wp_block ?_))));obtain ⟨ai,aj,H⟩:=Za H;obtain ⟨aw,x,H⟩:=Za H;refine Zr (mv S rfl fun f S=>mv S rfl fun f S=>?_);have c:=Zo v c;refine ov S rfl (ZP S (Zw c) rfl rfl ZV) fun f S=>ov S rfl (Zk S rfl rfl (ZEa aj)) fun f S=>?_;obtain ⟨ax,ay,ak,L⟩:=ZRi S (A:=(Zc .u64)) (p:=(0 : Int)) (r:=ai) ZV c (Znb x).1 (Znb x).2.1 (Znb x).2.2.1;rw [← (Znb x).2.2.2.1] at L;refine ov S rfl (ak rfl (.inl ⟨rfl,rfl⟩) (.inr ⟨_,_,rfl,rfl⟩)) fun f S=>mw S rfl fun f S=>Zq (Zta ?_);obtain rfl:=Zg H;refine Y _ rfl _ _ ⟨_,_,_,_,_,rfl,(leT I v),(S.fr' rfl),L⟩
    have H:=Zy H i;refine ZE S rfl i (wp_exit (ZX ?_));obtain rfl:=Zg H;have hq:=Z _ rfl;subst hq;have H:=W;refine ZX (Zxa ?_);obtain rfl:=Zg H;have c:=Zo v c;refine Zb (U _ _ ⟨_,_,_,_,_,rfl,(leT (leT (leR _) I) v),(S.fr' rfl),c⟩)
  rintro f w ⟨B,j,k,l,m,hq,az,S,al⟩;subst hq;have H:=T;refine Zb (P _ _ (sr (mv S rfl fun f S=>mw S rfl fun f S=>oe (wp_ret ?_))));obtain rfl:=Zg H;refine ZC S (ZO rfl (ZG S rfl)) ⟨[.slice j (k) l],rfl,al⟩
theorem Z1d {d : World} {b : Zd} (hv : VIn b d) {e : List Value} {a : (List Int)} (c : Rep.rel (ZD (Zc .u64)) b e a) {z : Nat} (hm : ZGb a = some z) :
    Ret Tryz.prog 149 #[(ZD (Zc .u64)).val e] d b (fun y v'=>∃ f,y = ZI.val f ∧ ZI.rel v' f z) :=
  by cases hm;exact cut_w hv c (cut_eq (Z2j c).1 (Z2j c).2)
theorem word_w {b : World} {a : Zd} (hv : VIn a b) {c : List Value} {n : Int} (h : Rep.rel (Zc .u64) a c n) {z : Nat} (H : Zwi n = some z) : Ret Tryz.prog 139 #[(Zc .u64).val c] b a (fun y v'=>∃ d,y = ZI.val d ∧ ZI.rel v' d z):=by
  obtain ⟨rfl,j⟩:=h;refine ZW (K:=6) (args:=[.int .u64 (n)]) hv Tryz.func139 rfl rfl zl fun f S=>?_;unfold Zwi at H;refine sr (mw S rfl fun f S=>oe (Zi fun _ k=>?_));obtain ⟨u,m,H⟩:=Za H;refine Zr (mv S rfl fun f S=>?_);obtain ⟨e,w,o,S⟩:=Zcb S (n:=1) (cs:=[.int .u64 (n)]) (vals:=[(0,.int .u64 (n))]) (sz:=1) rfl (by decide) (Z1b Z0c (x:=.int .u64 (n)) (cs:=[.int .u64 (n)]) rfl rfl (by decide));have p : Rep.rels (Zc .u64) a [.int .u64 (n)] [n]:=(Zqb (Zx j) ZXa);refine ZAa wn rfl zl (o rfl) S fun f S=>?_;obtain ⟨v,B,S,q⟩:=S.pubSlice (i:=0) (A:=(Zc .u64)) (l:=[n]) (ℓ':=[]) rfl rfl rfl p rfl;refine opc S rfl (Zp S [.slice (mkA (some e)) (1) 1] Z5d rfl rfl) (Z1d S.vin (show Rep.rel (ZD (Zc .u64)) _ [.slice (mkA (some e)) (1) 1] ([n]) from q) m) ?_;rintro _ C f w D ⟨E,rfl,g⟩ S;obtain ⟨r,s,t,rfl⟩:=Zca g;refine mw S rfl fun f S=>Zq (Zb (k _ _ (wp_ret ?_)));obtain rfl:=Zg H;refine ZC S (ZO rfl (ZG S rfl)) ⟨[.slice r s t],rfl,g⟩
theorem ZMf {b : World} {a : Zd} (hv : VIn a b) {c : List Value} {n : Int} (e : Rep.rel (Zc .u64) a c n) {z : Nat} (hm : Z5c n = some z) :
    Ret Tryz.prog 139 #[(Zc .u64).val c] b a (fun y v'=>∃ d,y = ZI.val d ∧ ZI.rel v' d z) :=
  word_w hv e (Zar hm)
theorem of_w {k : World} {j : Zd} (hv : VIn j k) {l : List Value} {n : Int} (q : Rep.rel (Zc .i64) j l n) {z : Int} (H : of_m n = some z) : Ret Tryz.prog 88 #[(Zc .i64).val l] k j (fun y v'=>∃ m,y = Zha.val m ∧ Zha.rel v' m z):=by
  obtain ⟨rfl,G⟩:=q;refine ZW (K:=14) (args:=[.int .i64 (n)]) hv Tryz.func88 rfl rfl zl fun f S=>?_;unfold of_m at H;refine sr (Z3 S wn rfl zl (cs:=[.bool false,.slice none 0 0]) (ZN Zxd) fun I f w S=>oe (Zi fun _ r=>sr (mv S rfl fun f S=>ov S rfl (Zk S rfl rfl Z4) fun f S=>oe ?_)));rcases ZA (decide (n < (0 : Int))) with a | a
  · have H:=Zz H a;refine ZF S rfl a (Zi fun _ t=>?_);obtain ⟨J,u,H⟩:=Za H;refine Zr (mv S rfl fun f S=>ov S rfl (ZIa S rfl (ZSi _)) fun f S=>ov S rfl (Zaj S rfl) fun f S=>opc S rfl (Zp S [.int .u64 (IntKind.u64.wrap (-(IntKind.u64.wrap n)))] Z7f rfl rfl) (ZMf S.vin (show Rep.rel (Zc .u64) _ [.int .u64 (IntKind.u64.wrap (-(IntKind.u64.wrap n)))] (IntKind.u64.wrap (-(IntKind.u64.wrap n))) from (Zx (Zza _ _))) u) ?_);rintro _ L f w M ⟨N,rfl,o⟩ S;obtain ⟨b,c,d,rfl⟩:=Zca o;refine ov S rfl (ZQa S [(0,.bool (true)),(1,.slice b c d)] rfl (z:=.agg #[.bool (true),.slice b c d]) (by kernel_rfl)) fun f S=>?_;obtain ⟨w,v,S⟩:=sbp S [.bool (true),.slice b c d] ZPa 0 0 rfl;refine ZY wn rfl (v rfl rfl) (Zq (Zb (t _ _ (wp_ret (ZQ ?_)))));obtain ⟨O,x,H⟩:=Za H;have A:=Z0j (s:=true) o x;obtain rfl:=Zg H;refine ZC S (ZO rfl (Zwd S rfl ZPa rfl (S.box (i:=0) rfl 0 [.bool (true),.slice b c d] rfl))) ⟨[.bool (true),.slice b c d],rfl,A⟩
  have H:=Zy H a;refine ZE S rfl a (wp_skip (Zb (r _ _ (Zi fun _ B=>?_))));obtain ⟨P,C,H⟩:=Za H;refine Zr (mv S rfl fun f S=>ov S rfl (ZIa S rfl (ZSi _)) fun f S=>opc S rfl (Zp S [.int .u64 (IntKind.u64.wrap n)] Z7f rfl rfl) (ZMf S.vin (show Rep.rel (Zc .u64) _ [.int .u64 (IntKind.u64.wrap n)] (IntKind.u64.wrap n) from (Zx (Zza _ _))) C) ?_);rintro _ Q f w R ⟨T,rfl,p⟩ S;obtain ⟨e,g,h,rfl⟩:=Zca p;refine ov S rfl (ZQa S [(0,.bool (false)),(1,.slice e g h)] rfl (z:=.agg #[.bool (false),.slice e g h]) (by kernel_rfl)) fun f S=>?_;obtain ⟨w,D,S⟩:=sbp S [.bool (false),.slice e g h] ZPa 0 0 rfl;refine ZY wn rfl (D rfl rfl) (Zq (Zb (B _ _ (wp_ret ?_))));obtain ⟨U,E,H⟩:=Za H;have F:=Z0j (s:=false) p E;obtain rfl:=Zg H;refine ZC S (ZO rfl (Zwd S rfl ZPa rfl (S.box (i:=0) rfl 0 [.bool (false),.slice e g h] rfl))) ⟨[.bool (false),.slice e g h],rfl,F⟩
theorem of_c {b : World} {a : Zd} (hv : VIn a b) {c : List Value} {n : Int} (d : Rep.rel (Zc .i64) a c n) {z : Int} (hm : ofF n = some z) :
    Ret Tryz.prog 88 #[(Zc .i64).val c] b a (fun y v'=>∃ e,y = Zha.val e ∧ Zha.rel v' e z) :=
  of_w hv d (ofF_eq d.2 hm)
theorem qint_w {g : World} {e : Zd} (hv : VIn e g) {h : List Value} {n : Int} (k : Rep.rel (Zc .i64) e h n) {z : Rat} (H : Zbi n = some z) : Ret Tryz.prog 20 #[(Zc .i64).val h] g e (fun y v'=>∃ i,y = Ze.val i ∧ Ze.rel v' i z):=by
  obtain ⟨rfl,l⟩:=k;refine ZW (K:=6) (args:=[.int .i64 (n)]) hv Tryz.func20 rfl rfl zl fun f S=>?_;unfold Zbi at H;refine sr (Z3 S wn rfl zl (cs:=[.bool false,.slice none 0 0,.slice none 0 0]) (ZN Zoa) fun s f w S=>oe (Zi fun _ m=>?_));obtain ⟨t,o,H⟩:=Za H;refine Zr (mv S rfl fun f S=>opc S rfl (Zp S [.int .i64 (n)] Zgi rfl rfl) (of_c S.vin (show Rep.rel (Zc .i64) _ [.int .i64 (n)] n from (Zx l)) o) ?_);rintro _ u f w v ⟨x,rfl,j⟩ S;obtain ⟨a,b,c,d,rfl⟩:=Z6a j;refine ov S rfl (ZQa S [(0,.agg #[.bool a,.slice b c d])] rfl (z:=.agg #[.bool a,.slice b c d,.slice none 0 0]) (by kernel_rfl)) fun f S=>?_;obtain ⟨w,p,S⟩:=sbp S [.bool a,.slice b c d,.slice none 0 0] Zu 0 0 rfl;refine ZY wn rfl (p rfl rfl) (Zq (Zb (m _ _ (wp_ret ?_))));obtain ⟨A,q,H⟩:=Za H;have r:=Zej j (ZGf _) q;obtain rfl:=Zg H;refine ZC S (ZO rfl (Zka S rfl Zu 0 rfl rfl)) ⟨[.bool a,.slice b c d,.slice none 0 0],rfl,r⟩
theorem Z8e {b : World} {a : Zd} (hv : VIn a b) {c : List Value} {n : Int} (e : Rep.rel (Zc .i64) a c n) {z : Rat} (hm : Znd n = some z) :
    Ret Tryz.prog 20 #[(Zc .i64).val c] b a (fun y v'=>∃ d,y = Ze.val d ∧ Ze.rel v' d z) :=
  qint_w hv e (Z5q hm)
theorem len64_w {b : World} {a : Zd} (hv : VIn a b) {q : List Value} {x : Int} (J : Rep.rel (Zc .u64) a q x) {z : Int} (H : Z1g x = some z) : Ret Tryz.prog 196 #[(Zc .u64).val q] b a (fun y v'=>∃ r,y = (Zc .i64).val r ∧ (Zc .i64).rel v' r z):=by
  obtain ⟨rfl,s⟩:=J;refine ZW (K:=25) (args:=[.int .u64 (x)]) hv Tryz.func196 rfl rfl zl fun f S=>?_;unfold Z1g at H;refine sr (mw S rfl fun f S=>oe (Zi fun _ L=>sr (mv S rfl fun f S=>ov S rfl (Zk S rfl rfl ZEb) fun f S=>oe ?_)));obtain ⟨M,N,O⟩:=Za H;refine ZR (fun f w=>∃ (c : Int) (i : Int) (j : Zd),(c,i) = M ∧ Zd.le a j ∧ St 25 b a [(0,.int .u64 (c)),(2,.int .i64 (i))] [] j f w ∧ inR .u64 c ∧ inR .i64 i) (fun _ t=>?_) ?_
  · have H:=N;rcases ZA (decide ((4294967296 : Int) ≤ x)) with d | d
    · have H:=Zz H d;refine ZF S rfl d (Zi fun _ P=>?_);obtain ⟨ag,u,H⟩:=Za H;refine Zr (mv S rfl fun f S=>ov S rfl (Zk S rfl rfl (ZDb u)) fun f S=>mw S rfl fun f S=>Zq (Zb (P _ _ (Zr (mw S rfl fun f S=>Zq ?_)))));obtain rfl:=Zg H;refine Zb (t _ _ ⟨_,_,_,rfl,(leR _),(S.fr' rfl),(Z7d s u),(by decide)⟩)
    have H:=Zy H d;refine ZE S rfl d (wp_skip ?_);obtain rfl:=Zg H;refine Zb (t _ _ ⟨_,_,_,rfl,(leR _),(S.fr' rfl),s,(by decide)⟩)
  rintro f w ⟨c,i,j,hq,ah,S,v,Q⟩;subst hq;have H:=O;refine Zb (L _ _ (Zi fun _ R=>sr (mv S rfl fun f S=>ov S rfl (Zk S rfl rfl ZEb) fun f S=>oe ?_)));obtain ⟨T,U,V⟩:=Za H;refine ZR (fun f w=>∃ (e : Int) (k : Int) (m : Zd),(e,k) = T ∧ Zd.le j m ∧ St 25 b a [(0,.int .u64 (e)),(2,.int .i64 (k))] [] m f w ∧ inR .u64 e ∧ inR .i64 k) (fun _ A=>?_) ?_
  · have H:=U;rcases ZA (decide ((65536 : Int) ≤ c)) with g | g
    · have H:=Zz H g;refine ZF S rfl g (Zi fun _ W=>?_);obtain ⟨ai,B,H⟩:=Za H;refine Zr (mv S rfl fun f S=>ov S rfl (Zk S rfl rfl (ZDb B)) fun f S=>mw S rfl fun f S=>Zq (Zb (W _ _ ?_)));obtain ⟨aj,C,H⟩:=Za H;refine Zr (mv S rfl fun f S=>ov S rfl (Zk S rfl rfl (Zja C)) fun f S=>mw S rfl fun f S=>Zq ?_);obtain rfl:=Zg H;refine Zb (A _ _ ⟨_,_,_,rfl,(leR _),(S.fr' rfl),(Z7d v B),(Zga C).2⟩)
    have H:=Zy H g;refine ZE S rfl g (wp_skip ?_);obtain rfl:=Zg H;refine Zb (A _ _ ⟨_,_,_,rfl,(leR _),(S.fr' rfl),v,Q⟩)
  rintro f w ⟨e,k,m,hq,ak,S,D,X⟩;subst hq;have H:=V;refine Zb (R _ _ (Zi fun _ Y=>sr (mv S rfl fun f S=>ov S rfl (Zk S rfl rfl ZEb) fun f S=>oe ?_)));obtain ⟨Z,aa,ab⟩:=Za H;refine ZR (fun f w=>∃ (n : Int) (o : Int) (p : Zd),(n,o) = Z ∧ Zd.le m p ∧ St 25 b a [(0,.int .u64 (n)),(2,.int .i64 (o))] [] p f w ∧ inR .u64 n ∧ inR .i64 o) (fun _ E=>?_) ?_
  · have H:=aa;rcases ZA (decide ((256 : Int) ≤ e)) with h | h
    · have H:=Zz H h;refine ZF S rfl h (Zi fun _ ac=>?_);obtain ⟨al,F,H⟩:=Za H;refine Zr (mv S rfl fun f S=>ov S rfl (Zk S rfl rfl (ZDb F)) fun f S=>mw S rfl fun f S=>Zq (Zb (ac _ _ ?_)));obtain ⟨am,G,H⟩:=Za H;refine Zr (mv S rfl fun f S=>ov S rfl (Zk S rfl rfl (Zja G)) fun f S=>mw S rfl fun f S=>Zq ?_);obtain rfl:=Zg H;refine Zb (E _ _ ⟨_,_,_,rfl,(leR _),(S.fr' rfl),(Z7d D F),(Zga G).2⟩)
    have H:=Zy H h;refine ZE S rfl h (wp_skip ?_);obtain rfl:=Zg H;refine Zb (E _ _ ⟨_,_,_,rfl,(leR _),(S.fr' rfl),D,X⟩)
  rintro f w ⟨n,o,p,hq,an,S,ao,ap⟩;subst hq;have H:=ab;refine Zb (Y _ _ (Zi fun _ ad=>?_));obtain ⟨aq,ae,H⟩:=Za H;obtain ⟨af,I,H⟩:=Za H;refine Zr (mv S rfl fun f S=>mv S rfl fun f S=>ov S rfl (ZIa S rfl (Z2m _)) fun f S=>ov S rfl (Z8n S (l:=([0,1,2,2,3,3,3,3,4,4,4,4,4,4,4,4,5,5,5,5,5,5,5,5,5,5,5,5,5,5,5,5,6,6,6,6,6,6,6,6,6,6,6,6,6,6,6,6,6,6,6,6,6,6,6,6,6,6,6,6,6,6,6,6,7,7,7,7,7,7,7,7,7,7,7,7,7,7,7,7,7,7,7,7,7,7,7,7,7,7,7,7,7,7,7,7,7,7,7,7,7,7,7,7,7,7,7,7,7,7,7,7,7,7,7,7,7,7,7,7,7,7,7,7,7,7,7,7,8,8,8,8,8,8,8,8,8,8,8,8,8,8,8,8,8,8,8,8,8,8,8,8,8,8,8,8,8,8,8,8,8,8,8,8,8,8,8,8,8,8,8,8,8,8,8,8,8,8,8,8,8,8,8,8,8,8,8,8,8,8,8,8,8,8,8,8,8,8,8,8,8,8,8,8,8,8,8,8,8,8,8,8,8,8,8,8,8,8,8,8,8,8,8,8,8,8,8,8,8,8,8,8,8,8,8,8,8,8,8,8,8,8,8,8,8,8,8,8,8,8,8,8,8,8,8,8] : List UInt8)) (by kernel_rfl) rfl Tryz.underlying9 ae) fun f S=>ov S rfl (ZIa S rfl (k_cv5_3 _)) fun f S=>ov S rfl (Zk S rfl rfl (Zja I)) fun f S=>mw S rfl fun f S=>Zq (Zb (ad _ _ (wp_ret ?_))));obtain rfl:=Zg H;refine ZC S (ZO rfl (ZG S rfl)) ⟨[.int .i64 (af)],rfl,(Zx (Zga I).2)⟩
theorem len64_c {b : World} {a : Zd} (hv : VIn a b) {c : List Value} {x : Int} (e : Rep.rel (Zc .u64) a c x) {z : Int} (hm : ZSg x = some z) :
    Ret Tryz.prog 196 #[(Zc .u64).val c] b a (fun y v'=>∃ d,y = (Zc .i64).val d ∧ (Zc .i64).rel v' d z) :=
  len64_w hv e (ZQn hm)
theorem lz64_w {b : World} {a : Zd} (hv : VIn a b) {c : List Value} {x : Int} (g : Rep.rel (Zc .u64) a c x) {z : Int} (H : ZJj x = some z) : Ret Tryz.prog 176 #[(Zc .u64).val c] b a (fun y v'=>∃ d,y = (Zc .i64).val d ∧ (Zc .i64).rel v' d z):=by
  obtain ⟨rfl,h⟩:=g;refine ZW (K:=6) (args:=[.int .u64 (x)]) hv Tryz.func176 rfl rfl zl fun f S=>?_;unfold ZJj at H;refine sr (mw S rfl fun f S=>oe (Zi fun _ i=>?_));obtain ⟨m,j,H⟩:=Za H;obtain ⟨k,e,H⟩:=Za H;refine Zr (mv S rfl fun f S=>opc S rfl (Zp S [.int .u64 (x)] k_en196 rfl rfl) (len64_c S.vin (show Rep.rel (Zc .u64) _ [.int .u64 (x)] x from (Zx h)) j) ?_);rintro _ n f w o ⟨p,rfl,l⟩ S;obtain ⟨rfl,q⟩:=l;refine ov S rfl (Zk S rfl rfl (ZEa e)) fun f S=>mw S rfl fun f S=>Zq (Zb (i _ _ (wp_ret ?_)));obtain rfl:=Zg H;refine ZC S (ZO rfl (ZG S rfl)) ⟨[.int .i64 (k)],rfl,(Zx (Zga e).2)⟩
theorem Zpm {b : World} {a : Zd} (hv : VIn a b) {c : List Value} {x : Int} (e : Rep.rel (Zc .u64) a c x) {z : Int} (hm : ZHe x = some z) :
    Ret Tryz.prog 176 #[(Zc .u64).val c] b a (fun y v'=>∃ d,y = (Zc .i64).val d ∧ (Zc .i64).rel v' d z) :=
  lz64_w hv e (ZGo hm)
theorem div64_w {e : World} {c : Zd} (hv : VIn c e) {X : List Value} {hi : Int} (p0 : Rep.rel (Zc .u64) c X hi) {Y : List Value} {lo : Int} (p1 : Rep.rel (Zc .u64) c Y lo) {Z : List Value} {y : Int} (p2 : Rep.rel (Zc .u64) c Z y) {z : Int × Int} (H : Z2h hi lo y = some z) : Ret Tryz.prog 190 #[(Zc .u64).val X,(Zc .u64).val Y,(Zc .u64).val Z] e c (fun y v'=>∃ r0 M,y = .tuple #[(Zc .u64).val r0,(Zc .u64).val M] ∧ (Zc .u64).rel v' r0 z.1 ∧ (Zc .u64).rel v' M z.2):=by
  obtain ⟨rfl,M⟩:=p0;obtain ⟨rfl,r2⟩:=p1;obtain ⟨rfl,r3⟩:=p2;refine ZW (K:=135) (args:=[.int .u64 (hi),.int .u64 (lo),.int .u64 (y)]) hv Tryz.func190 rfl rfl zl fun f S=>?_;unfold Z2h at H;refine sr (mw S rfl fun f S=>mw S rfl fun f S=>oe (Zi fun _ an=>sr (mv S rfl fun f S=>ov S rfl (Zk S rfl rfl Zwa) fun f S=>oe ?_)));rcases ZA (y == ((0 : Int))) with q | q
  · have H:=Zz H q;refine ZF S rfl q ?_
    cases H
  have H:=Zy H q;refine ZE S rfl q (wp_skip (Zb (an _ _ (Zi fun _ ao=>sr (mv S rfl fun f S=>mv S rfl fun f S=>ov S rfl (Zk S rfl rfl Zrb) fun f S=>oe ?_)))));rcases ZA (decide (y ≤ hi)) with r | r
  · have H:=Zz H r;refine ZF S rfl r ?_
    cases H
  have H:=Zy H r;refine ZE S rfl r (wp_skip (Zb (ao _ _ (Zi fun _ ap=>sr (mv S rfl fun f S=>ov S rfl (Zk S rfl rfl Zwa) fun f S=>oe ?_)))));rcases ZA (hi == ((0 : Int))) with s | s
  · have H:=Zz H s;refine ZF S rfl s (Zi fun _ aq=>?_);obtain ⟨ar,aa,H⟩:=Za H;obtain ⟨au,N,H⟩:=Za H;refine Z8 (fl:=#[true,true,true,true,true,true,false,false]) Z7 (by kernel_rfl) S ?_;intro ops O F w S;refine rfa O F 0 rfl rfl S (Zs S rfl) fun f S=>rfa O F 1 rfl rfl S (Zs S rfl) fun f S=>rfa O F 2 rfl rfl S (Zk S rfl rfl (Zmc aa)) fun f S=>rfa O F 3 rfl rfl S (Zs S rfl) fun f S=>rfa O F 4 rfl rfl S (Zs S rfl) fun f S=>rfa O F 5 rfl rfl S (Zk S rfl rfl (ZXc N)) fun f S=>go1 O F 6 (nva [0,1,2] [3,4,5] O rfl rfl S (Zua S rfl) fun f S=>⟨(py S rfl rfl (Zs S rfl) (py S rfl rfl (Zs S rfl) (py S rfl rfl (Zk S rfl rfl (ZXc N)) Zn))),go1 O F 7 (nva [0,1,2,3,4,5,6] [] O rfl rfl S (Zua S rfl) fun f S=>⟨Zn,ZU O F (Zb (aq _ _ ?_))⟩)⟩);refine wp_ret (ZQ ?_);obtain rfl:=Zg H;refine ZC S (ZDa rfl (ZG S rfl) (ZG S rfl)) ⟨[.int .u64 (ar)],[.int .u64 (au)],rfl,(Zx (Zgf aa)),(Zx (Z9j r2 N))⟩
  have H:=Zy H s;refine ZE S rfl s (wp_skip (Zb (ap _ _ (Zi fun _ av=>?_))));obtain ⟨h,aw,H⟩:=Za H;refine Zr (mv S rfl fun f S=>opc S rfl (Zp S [.int .u64 (y)] ZVm rfl rfl) (Zpm S.vin (show Rep.rel (Zc .u64) _ [.int .u64 (y)] y from (Zx r3)) aw) ?_);rintro _ ab f w bd ⟨be,rfl,ax⟩ S;obtain ⟨rfl,bf⟩:=ax;refine ov S rfl (ZIa S rfl (ZUk _)) fun f S=>mw S rfl fun f S=>Zq (Zb (av _ _ (Zi fun _ ay=>?_)));obtain ⟨a,az,H⟩:=Za H;refine Zr (mv S rfl fun f S=>mv S rfl fun f S=>ov S rfl (Zk S rfl rfl (ZJd az)) fun f S=>mw S rfl fun f S=>Zq (Zb (ay _ _ (Zi fun _ aA=>?_))));obtain ⟨g,aB,H⟩:=Za H;refine Zr (mv S rfl fun f S=>ov S rfl (Zk S rfl rfl (ZDb aB)) fun f S=>mw S rfl fun f S=>Zq (Zb (aA _ _ (sr (mv S rfl fun f S=>ov S rfl (Zk S rfl rfl Z2e) fun f S=>mw S rfl fun f S=>oe (Zi fun _ aC=>?_))))));obtain ⟨i,aD,H⟩:=Za H;obtain ⟨j,aE,H⟩:=Za H;refine Zr (mv S rfl fun f S=>mv S rfl fun f S=>ov S rfl (Zk S rfl rfl (ZJd aD)) fun f S=>mv S rfl fun f S=>mv S rfl fun f S=>ov S rfl (Zk S rfl rfl Z4d) fun f S=>ov S rfl (Zk S rfl rfl (ZDb aE)) fun f S=>ov S rfl (Zk S rfl rfl ZLd) fun f S=>mw S rfl fun f S=>Zq ?_);have S:=S.fr' (σ':=[(1,.int .u64 (lo)),(2,.int .u64 (a)),(8,.int .u64 (IntKind.u64.wrap h)),(9,.int .u64 (g)),(10,.int .u64 (ZUa .u64 a ((4294967295 : Int)))),(11,.int .u64 (orI .u64 i j))]) rfl
  refine Zb (aC _ _ (Zi fun _ aF=>?_));obtain ⟨k,aG,H⟩:=Za H;refine Zr (mv S rfl fun f S=>mv S rfl fun f S=>ov S rfl (Zk S rfl rfl (ZJd aG)) fun f S=>mw S rfl fun f S=>Zq (Zb (aF _ _ (Zi fun _ aH=>?_))));obtain ⟨l,aI,H⟩:=Za H;refine Zr (mv S rfl fun f S=>ov S rfl (Zk S rfl rfl (ZDb aI)) fun f S=>mw S rfl fun f S=>Zq (Zb (aH _ _ (sr (mv S rfl fun f S=>ov S rfl (Zk S rfl rfl Z2e) fun f S=>mw S rfl fun f S=>oe (Zi fun _ aJ=>?_))))));obtain ⟨bg,ac,H⟩:=Za H;refine Zr (mv S rfl fun f S=>mv S rfl fun f S=>ov S rfl (Zk S rfl rfl (Zmc ac)) fun f S=>mw S rfl fun f S=>Zq (Zb (aJ _ _ (sr (mv S rfl fun f S=>mv S rfl fun f S=>mv S rfl fun f S=>ov S rfl (Zk S rfl rfl Znc) fun f S=>ov S rfl (Zk S rfl rfl Z4d) fun f S=>mw S rfl fun f S=>?_)))));refine oe (Zi fun _ aK=>?_);obtain ⟨aL,aM,aN⟩:=Za H;refine ZR (fun f w=>∃ (d : Int) (u : Zd),d = aL ∧ Zd.le ab u ∧ St 135 e c [(2,.int .u64 (a)),(8,.int .u64 (IntKind.u64.wrap h)),(9,.int .u64 (g)),(10,.int .u64 (ZUa .u64 a ((4294967295 : Int)))),(11,.int .u64 (orI .u64 i j)),(13,.int .u64 (l)),(14,.int .u64 (ZUa .u64 k ((4294967295 : Int)))),(15,.int .u64 (d))] [] u f w ∧ inR .u64 d) (fun _ ad=>?_) ?_
  · have H:=aM;refine wp_block ?_;obtain ⟨bh,aO,ae⟩:=Za H;refine ZBa aO (fun aP f w=>∃ (m : Int) (n : Int) (G : Zd),(m,n) = aP ∧ Zd.le ab G ∧ St 135 e c [(2,.int .u64 (a)),(8,.int .u64 (IntKind.u64.wrap h)),(9,.int .u64 (g)),(10,.int .u64 (ZUa .u64 a ((4294967295 : Int)))),(11,.int .u64 (orI .u64 i j)),(13,.int .u64 (l)),(14,.int .u64 (ZUa .u64 k ((4294967295 : Int)))),(15,.int .u64 (m)),(16,.int .u64 (n))] [] G f w ∧ inR .u64 m ∧ inR .u64 n) ⟨_,_,_,rfl,(leR _),(S.fr' rfl),(Zgf ac),(Zza _ _)⟩ ?_;rintro _ f w st ⟨m,n,G,hq,P,S,aQ,bi⟩ H bj aR af;subst hq;refine Zi fun _ aS=>Zi fun _ aT=>?_;obtain ⟨aU,aV,aW⟩:=Za H;refine ZR (fun f w=>∃ (I : Bool) (Q : Zd),I = aU ∧ Zd.le G Q ∧ St 135 e c [(2,.int .u64 (a)),(8,.int .u64 (IntKind.u64.wrap h)),(9,.int .u64 (g)),(10,.int .u64 (ZUa .u64 a ((4294967295 : Int)))),(11,.int .u64 (orI .u64 i j)),(13,.int .u64 (l)),(14,.int .u64 (ZUa .u64 k ((4294967295 : Int)))),(15,.int .u64 (m)),(16,.int .u64 (n)),(78,.bool (I))] [] Q f w) (fun _ ag=>?_) ?_
    · have H:=aV;rcases ZA (decide ((4294967296 : Int) ≤ m)) with v | v
      · have H:=Zz H v;refine Zr (mv S rfl fun f S=>ov S rfl (Zk S rfl rfl ZEb) fun f S=>?_);have S:=S.bool (t:=68) rfl v;refine mv S rfl fun f S=>opn S rfl rfl rfl rfl fun f S=>opn S rfl rfl rfl rfl fun f S=>opn S rfl rfl rfl rfl fun f S=>opn S rfl rfl rfl rfl fun f S=>opn S rfl rfl rfl rfl fun f S=>opn S rfl rfl rfl rfl fun f S=>opn S rfl rfl rfl rfl fun f S=>opn S rfl rfl rfl rfl fun f S=>ov S rfl (ZJ S (b:=true) rfl rfl) fun f S=>Zq ?_;obtain rfl:=Zg H;refine Zb (ag _ _ ⟨_,_,rfl,(leR _),(S.fr' rfl)⟩)
      have H:=Zy H v;refine Zr (mv S rfl fun f S=>ov S rfl (Zk S rfl rfl ZEb) fun f S=>?_);have S:=S.bool (t:=68) rfl v;refine mv S rfl fun f S=>opy S rfl rfl rfl rfl (Zs S rfl) fun f S=>opy S rfl rfl rfl rfl (Zs S rfl) fun f S=>opy S rfl rfl rfl rfl (Zk S rfl rfl Znc) fun f S=>opy S rfl rfl rfl rfl (Zs S rfl) fun f S=>opy S rfl rfl rfl rfl (Zk S rfl rfl Znc) fun f S=>opy S rfl rfl rfl rfl (Zs S rfl) fun f S=>opy S rfl rfl rfl rfl (Zk S rfl rfl ZTb) fun f S=>opy S rfl rfl rfl rfl (Zk S rfl rfl ZCa) fun f S=>ov S rfl (ZJ S (b:=false) rfl rfl) fun f S=>Zq ?_;obtain rfl:=Zg H;refine Zb (ag _ _ ⟨_,_,rfl,(leR _),(S.fr' rfl)⟩)
    rintro f w ⟨I,Q,hq,R,S⟩;subst hq;have H:=aW;refine Zb (aT _ _ ?_);rcases ZA (I) with x | x
    · have H:=Zz H x;refine ZF S rfl x (wp_skip (Zb (aS _ _ (wp_block (sr (mv S rfl fun f S=>ov S rfl (Zk S rfl rfl Z4d) fun f S=>mw S rfl fun f S=>oe (sr (mv S rfl fun f S=>mv S rfl fun f S=>ov S rfl (Zk S rfl rfl ZTb) fun f S=>mw S rfl fun f S=>?_))))))));refine oe (sr (mv S rfl fun f S=>ov S rfl (Zk S rfl rfl ZEb) fun f S=>oe ?_));rcases ZA (decide ((4294967296 : Int) ≤ IntKind.u64.wrap (n + g))) with A | A
      · have H:=Zz H A;refine ZF S rfl A (wp_exit (ZVi rfl ?_));obtain rfl:=Zg H;have hq:=af _ rfl;subst hq;have H:=ae;refine ZX (Zxa ?_);obtain rfl:=Zg H;refine Zb (ad _ _ ⟨_,_,rfl,(leT (leT (leR _) P) R),(S.fr' rfl),(Zza _ _)⟩)
      have H:=Zy H A;refine ZE S rfl A (wp_skip (Zta ?_));obtain rfl:=Zg H;refine aR _ rfl _ _ ⟨_,_,_,rfl,(leT P R),(S.fr' rfl),(Zza _ _),(Zza _ _)⟩
    have H:=Zy H x;refine ZE S rfl x (wp_exit (ZX ?_));obtain rfl:=Zg H;have hq:=af _ rfl;subst hq;have H:=ae;refine ZX (Zxa ?_);obtain rfl:=Zg H;refine Zb (ad _ _ ⟨_,_,rfl,(leT (leT (leR _) P) R),(S.fr' rfl),aQ⟩)
  rintro f w ⟨d,u,hq,bk,S,bm⟩;subst hq;have H:=aN;refine Zb (aK _ _ (sr (mv S rfl fun f S=>ov S rfl (Zk S rfl rfl Znc) fun f S=>mv S rfl fun f S=>ov S rfl (Zk S rfl rfl ZTb) fun f S=>mv S rfl fun f S=>mv S rfl fun f S=>ov S rfl (Zk S rfl rfl Znc) fun f S=>ov S rfl (Zk S rfl rfl Z4d) fun f S=>mw S rfl fun f S=>oe (Zi fun _ aX=>?_))));obtain ⟨bn,ah,H⟩:=Za H;refine Zr (mv S rfl fun f S=>mv S rfl fun f S=>ov S rfl (Zk S rfl rfl (Zmc ah)) fun f S=>mw S rfl fun f S=>Zq (Zb (aX _ _ (sr (mv S rfl fun f S=>mv S rfl fun f S=>mv S rfl fun f S=>ov S rfl (Zk S rfl rfl Znc) fun f S=>ov S rfl (Zk S rfl rfl Z4d) fun f S=>mw S rfl fun f S=>?_)))));refine oe (Zi fun _ aY=>?_);obtain ⟨aZ,a0,a1⟩:=Za H;refine ZR (fun f w=>∃ (B : Int) (T : Zd),B = aZ ∧ Zd.le u T ∧ St 135 e c [(2,.int .u64 (a)),(8,.int .u64 (IntKind.u64.wrap h)),(14,.int .u64 (ZUa .u64 k ((4294967295 : Int)))),(15,.int .u64 (d)),(17,.int .u64 (IntKind.u64.wrap ((IntKind.u64.wrap ((IntKind.u64.wrap ((orI .u64 i j) * ((4294967296 : Int)))) + l)) - (IntKind.u64.wrap (d * a))))),(18,.int .u64 (B))] [] T f w ∧ inR .u64 B) (fun _ ai=>?_) ?_
  · have H:=a0;refine wp_block ?_;obtain ⟨bo,a2,aj⟩:=Za H;refine ZBa a2 (fun a3 f w=>∃ (o : Int) (p : Int) (J : Zd),(o,p) = a3 ∧ Zd.le u J ∧ St 135 e c [(2,.int .u64 (a)),(8,.int .u64 (IntKind.u64.wrap h)),(9,.int .u64 (g)),(10,.int .u64 (ZUa .u64 a ((4294967295 : Int)))),(14,.int .u64 (ZUa .u64 k ((4294967295 : Int)))),(15,.int .u64 (d)),(16,.int .u64 (o)),(17,.int .u64 (IntKind.u64.wrap ((IntKind.u64.wrap ((IntKind.u64.wrap ((orI .u64 i j) * ((4294967296 : Int)))) + l)) - (IntKind.u64.wrap (d * a))))),(18,.int .u64 (p))] [] J f w ∧ inR .u64 o ∧ inR .u64 p) ⟨_,_,_,rfl,(leR _),(S.fr' rfl),(Zza _ _),(Zgf ah)⟩ ?_;rintro _ f w st ⟨o,p,J,hq,U,S,bp,a4⟩ H bq a5 ak;subst hq;refine Zi fun _ a6=>Zi fun _ a7=>?_;obtain ⟨a8,a9,ba⟩:=Za H;refine ZR (fun f w=>∃ (L : Bool) (V : Zd),L = a8 ∧ Zd.le J V ∧ St 135 e c [(2,.int .u64 (a)),(8,.int .u64 (IntKind.u64.wrap h)),(9,.int .u64 (g)),(10,.int .u64 (ZUa .u64 a ((4294967295 : Int)))),(14,.int .u64 (ZUa .u64 k ((4294967295 : Int)))),(15,.int .u64 (d)),(16,.int .u64 (o)),(17,.int .u64 (IntKind.u64.wrap ((IntKind.u64.wrap ((IntKind.u64.wrap ((orI .u64 i j) * ((4294967296 : Int)))) + l)) - (IntKind.u64.wrap (d * a))))),(18,.int .u64 (p)),(113,.bool (L))] [] V f w) (fun _ al=>?_) ?_
    · have H:=a9;rcases ZA (decide ((4294967296 : Int) ≤ p)) with C | C
      · have H:=Zz H C;refine Zr (mv S rfl fun f S=>ov S rfl (Zk S rfl rfl ZEb) fun f S=>?_);have S:=S.bool (t:=103) rfl C;refine mv S rfl fun f S=>opn S rfl rfl rfl rfl fun f S=>opn S rfl rfl rfl rfl fun f S=>opn S rfl rfl rfl rfl fun f S=>opn S rfl rfl rfl rfl fun f S=>opn S rfl rfl rfl rfl fun f S=>opn S rfl rfl rfl rfl fun f S=>opn S rfl rfl rfl rfl fun f S=>opn S rfl rfl rfl rfl fun f S=>ov S rfl (ZJ S (b:=true) rfl rfl) fun f S=>Zq ?_;obtain rfl:=Zg H;refine Zb (al _ _ ⟨_,_,rfl,(leR _),(S.fr' rfl)⟩)
      have H:=Zy H C;refine Zr (mv S rfl fun f S=>ov S rfl (Zk S rfl rfl ZEb) fun f S=>?_);have S:=S.bool (t:=103) rfl C;refine mv S rfl fun f S=>opy S rfl rfl rfl rfl (Zs S rfl) fun f S=>opy S rfl rfl rfl rfl (Zs S rfl) fun f S=>opy S rfl rfl rfl rfl (Zk S rfl rfl Znc) fun f S=>opy S rfl rfl rfl rfl (Zs S rfl) fun f S=>opy S rfl rfl rfl rfl (Zk S rfl rfl Znc) fun f S=>opy S rfl rfl rfl rfl (Zs S rfl) fun f S=>opy S rfl rfl rfl rfl (Zk S rfl rfl ZTb) fun f S=>opy S rfl rfl rfl rfl (Zk S rfl rfl ZCa) fun f S=>ov S rfl (ZJ S (b:=false) rfl rfl) fun f S=>Zq ?_;obtain rfl:=Zg H;refine Zb (al _ _ ⟨_,_,rfl,(leR _),(S.fr' rfl)⟩)
    rintro f w ⟨L,V,hq,W,S⟩;subst hq;have H:=ba;refine Zb (a7 _ _ ?_);rcases ZA (L) with D | D
    · have H:=Zz H D;refine ZF S rfl D (wp_skip (Zb (a6 _ _ (wp_block (sr (mv S rfl fun f S=>ov S rfl (Zk S rfl rfl Z4d) fun f S=>mw S rfl fun f S=>oe (sr (mv S rfl fun f S=>mv S rfl fun f S=>ov S rfl (Zk S rfl rfl ZTb) fun f S=>mw S rfl fun f S=>?_))))))));refine oe (sr (mv S rfl fun f S=>ov S rfl (Zk S rfl rfl ZEb) fun f S=>oe ?_));rcases ZA (decide ((4294967296 : Int) ≤ IntKind.u64.wrap (o + g))) with E | E
      · have H:=Zz H E;refine ZF S rfl E (wp_exit (ZVi rfl ?_));obtain rfl:=Zg H;have hq:=ak _ rfl;subst hq;have H:=aj;refine ZX (Zxa ?_);obtain rfl:=Zg H;refine Zb (ai _ _ ⟨_,_,rfl,(leT (leT (leR _) U) W),(S.fr' rfl),(Zza _ _)⟩)
      have H:=Zy H E;refine ZE S rfl E (wp_skip (Zta ?_));obtain rfl:=Zg H;refine a5 _ rfl _ _ ⟨_,_,_,rfl,(leT U W),(S.fr' rfl),(Zza _ _),(Zza _ _)⟩
    have H:=Zy H D;refine ZE S rfl D (wp_exit (ZX ?_));obtain rfl:=Zg H;have hq:=ak _ rfl;subst hq;have H:=aj;refine ZX (Zxa ?_);obtain rfl:=Zg H;refine Zb (ai _ _ ⟨_,_,rfl,(leT (leT (leR _) U) W),(S.fr' rfl),a4⟩)
  rintro f w ⟨B,T,hq,br,S,bs⟩;subst hq;have H:=a1;refine Zb (aY _ _ (Zi fun _ bb=>?_));obtain ⟨bc,am,H⟩:=Za H;refine Zr (mv S rfl fun f S=>ov S rfl (Zk S rfl rfl Znc) fun f S=>mv S rfl fun f S=>ov S rfl (Zk S rfl rfl ZTb) fun f S=>mv S rfl fun f S=>ov S rfl (Zk S rfl rfl Znc) fun f S=>mv S rfl fun f S=>ov S rfl (Zk S rfl rfl ZTb) fun f S=>mv S rfl fun f S=>mv S rfl fun f S=>ov S rfl (Zk S rfl rfl Znc) fun f S=>ov S rfl (Zk S rfl rfl Z4d) fun f S=>mv S rfl fun f S=>?_);refine ov S rfl (Zk S rfl rfl (ZDb am)) fun f S=>mw S rfl fun f S=>mw S rfl fun f S=>Zq (Zb (bb _ _ (wp_ret ?_)));obtain rfl:=Zg H;refine ZC S (ZDa rfl (ZG S rfl) (ZG S rfl)) ⟨[.int .u64 (IntKind.u64.wrap ((IntKind.u64.wrap (d * ((4294967296 : Int)))) + B))],[.int .u64 (bc)],rfl,(Zx (Zza _ _)),(Zx (Z7d (Zza _ _) am))⟩
theorem Zcn {b : World} {a : Zd} (hv : VIn a b) {c : List Value} {hi : Int} (h : Rep.rel (Zc .u64) a c hi) {d : List Value} {lo : Int} (i : Rep.rel (Zc .u64) a d lo) {e : List Value} {y : Int} (j : Rep.rel (Zc .u64) a e y) {z : Int × Int} (hm : ZPd hi lo y = some z) :
    Ret Tryz.prog 190 #[(Zc .u64).val c,(Zc .u64).val d,(Zc .u64).val e] b a (fun y v'=>∃ f g,y = Value.tuple #[(Zc .u64).val f,(Zc .u64).val g] ∧ (Zc .u64).rel v' f z.1 ∧ (Zc .u64).rel v' g z.2) :=
  div64_w hv h i j (Zqq hm)
theorem Zpr {E : World} {d : Zd} (hv : VIn d E) {R : List Value} {a : Nat} (g : Rep.rel ZI d R a) {T : List Value} {n : Int} (p1 : Rep.rel (Zc .u64) d T n) {z : Nat × Int} (H : Zfh a n = some z) : Ret Tryz.prog 167 #[ZI.val R,(Zc .u64).val T] E d (fun y v'=>∃ U V,y = .tuple #[ZI.val U,(Zc .u64).val V] ∧ ZI.rel v' U z.1 ∧ (Zc .u64).rel v' V z.2):=by
  obtain ⟨W,X,Y,rfl⟩:=Zca g;obtain ⟨rfl,r4⟩:=p1;refine ZW (K:=35) (args:=[.slice W X Y,.int .u64 (n)]) hv Tryz.func167 rfl rfl zl fun f S=>?_;unfold Zfh at H;refine sr (mw S rfl fun f S=>mw S rfl fun f S=>oe (Zi fun _ ah=>?_));obtain ⟨y9,F,H⟩:=Za H;refine Zr (mv S rfl fun f S=>ov S rfl (ZP S (Zw g) rfl rfl ZV) fun f S=>?_);obtain ⟨Z,aa⟩ : ∃ c : List Value,c = (List.replicate ((((Zl 18446744073709551616 a)).length : Int)).toNat [.int .u64 ((0 : Int))]).flatten:=⟨_,rfl⟩;obtain ⟨ai,w,aj,S⟩:=Zpc Z0c S (l:=(((Zl 18446744073709551616 a)).length : Int)) (c:=(((Zl 18446744073709551616 a)).length : Int)) (Zfa F).1 (Zfa F).2.1 (Zfa F).2.2.1 (Zfa F).2.2.2 aa;have ak : Rep.rels (Zc .u64) d Z (List.replicate ((((Zl 18446744073709551616 a)).length : Int)).toNat ((0 : Int))):=by rw [aa];exact ZYb (show Rep.rel (Zc .u64) _ [.int .u64 ((0 : Int))] _ from (Zx (by decide))) _
  refine ZAa wn rfl zl (aj rfl rfl) S fun f S=>mw S rfl fun f S=>Zq (Zb (ah _ _ (sr (mw S rfl fun f S=>oe (Zi fun _ al=>Zi fun _ am=>?_)))));obtain ⟨aV,ab,H⟩:=Za H;refine Zr (mv S rfl fun f S=>ov S rfl (ZP S (Zw g) rfl rfl ZV) fun f S=>ov S rfl (Zk S rfl rfl (ZEa ab)) fun f S=>mw S rfl fun f S=>Zq (Zb (am _ _ ?_)));obtain ⟨an,ao,ap⟩:=Za H;refine ZR (fun f w=>∃ (o : (List Int)) (s : Int) (t : Option Nat) (p : Nat) (u : Nat) (L : List Value) (G : Zd),(o,s) = an ∧ Zd.le d G ∧ St 35 E d [(6,.slice (mkA t) (p) u),(7,.int .u64 (s))] [Loc.own t 211 1 (p) u L] G f w ∧ Rep.rels (Zc .u64) G L o ∧ p = o.length ∧ inR .u64 s) (fun _ aq=>?_) ?_
  · have H:=ao;refine wp_block ?_;obtain ⟨aW,ar,au⟩:=Za H;refine ZBa ar (fun av f w=>∃ (q : (List Int)) (h : Int) (b : Int) (I : Option Nat) (k : Nat) (v : Nat) (e : List Value) (J : Zd),(q,h,b) = av ∧ Zd.le d J ∧ St 35 E d [(0,.slice W X Y),(1,.int .u64 (n)),(6,.slice (mkA I) (k) v),(7,.int .u64 (h)),(8,.int .i64 (b))] [Loc.own I 211 1 (k) v e] J f w ∧ Rep.rels (Zc .u64) J e q ∧ k = q.length ∧ inR .u64 h ∧ inR .i64 b) ⟨_,_,_,some ai,((((Zl 18446744073709551616 a)).length : Int)).toNat,((((Zl 18446744073709551616 a)).length : Int)).toNat,Z,_,rfl,(leR _),(S.fr' rfl),ak,(ZMb (x:=(0 : Int))),(by decide),(Zga ab).2⟩ ?_;rintro _ f w st ⟨q,h,b,I,k,v,e,J,hq,M,S,B,C,ac,aX⟩ H aY aw ax;subst hq;refine Zi fun _ ay=>sr (mv S rfl fun f S=>ov S rfl (Zk S rfl rfl ZEb) fun f S=>oe ?_);rcases ZA (decide ((0 : Int) ≤ b)) with D | D
    · have H:=Zz H D;refine ZF S rfl D (wp_skip (Zb (ay _ _ (Zi fun _ az=>wp_block ?_))));obtain ⟨N,O,H⟩:=Za H;obtain ⟨m,aA,H⟩:=Za H;obtain ⟨aZ,r,H⟩:=Za H;refine Zr (mv S rfl fun f S=>mv S rfl fun f S=>mv S rfl fun f S=>mv S rfl fun f S=>mv S rfl fun f S=>?_);have g:=Zo M g;obtain ⟨_,a0,a1,a2,rfl,P,aB⟩:=Zma g (Zh O).2.1;obtain ⟨rfl,aC⟩:=aB;refine ov S rfl (ZH S rfl rfl ZV (Zh O).1 (ltI (Zw g) (Zh O).2.2.1)) fun f S=>ov S rfl (Zpa S rfl ZFa (S.view P)) fun f S=>mv S rfl fun f S=>opc S rfl (Zp S [.int .u64 (h),.int .u64 (N),.int .u64 (n)] Zsl rfl rfl) (Zcn S.vin (show Rep.rel (Zc .u64) _ [.int .u64 (h)] h from (Zx ac)) (show Rep.rel (Zc .u64) _ [.int .u64 (N)] N from (Zx aC)) (show Rep.rel (Zc .u64) _ [.int .u64 (n)] n from (Zx r4)) aA) ?_;rintro _ ad f w Q ⟨a3,a4,rfl,aD,aE⟩ S;have B:=Z2 Q B;have P:=Atm Q P;obtain ⟨rfl,aF⟩:=aD;obtain ⟨rfl,aG⟩:=aE;refine mv S rfl fun f S=>ov S rfl (ZB S rfl rfl) fun f S=>ov S rfl (ZB S rfl rfl) fun f S=>?_;obtain ⟨aH,rfl⟩:=ZXb S (j:=0) rfl (Z9b C (Zh r).2.2.2);have ae:=ZZa B (Zh r).2.1;obtain ⟨a5,aI⟩ : ∃ c,(List.take (Zc .u64).n (List.drop ((b).toNat * (Zc .u64).n) e)) = c:=⟨_,rfl⟩
      rw [aI] at ae;obtain ⟨rfl,a6⟩:=ae;refine ov S rfl (ZH S rfl rfl ZV (Zh r).1 (ltI C (Zh r).2.2.1)) fun f S=>?_;obtain ⟨w,aJ,S⟩:=Z3b S ZFa (off:=0 + (b).toNat * 1) (z:=.int .u64 (m.1)) (cs:=[.int .u64 (m.1)]) (ZLb rfl) rfl (i:=0) rfl (Z4b S (j:=0) rfl (ltN C (Zh r).2.2.2)) (by first | rfl | simp [Z1a]);have aK : Rep.rels (Zc .u64) ad (List.take (0 + (b).toNat * 1) e ++ [Value.int IntKind.u64 (m.1)] ++ List.drop (0 + (b).toNat * 1 + 1) e) (q.set (b).toNat m.1):=ZPb B (Zh r).2.2.2 (show Rep.rel (Zc .u64) ad [.int .u64 (m.1)] _ from (Zx aF)) rfl rfl;have aL : k = (q.set (b).toNat m.1).length:=ZUb C;refine ZY wn rfl (aJ rfl rfl) (mw S rfl fun f S=>Zq (Zta (Zb (az _ _ ?_))));obtain ⟨a7,af,H⟩:=Za H;refine Zr (mv S rfl fun f S=>ov S rfl (Zk S rfl rfl (ZEa af)) fun f S=>mw S rfl fun f S=>Zq ?_);obtain rfl:=Zg H;refine aw _ rfl _ _ ⟨_,_,_,some aH,k,v,(List.take (0 + (b).toNat * 1) e ++ [Value.int IntKind.u64 (m.1)] ++ List.drop (0 + (b).toNat * 1 + 1) e),_,rfl,(leT M Q),(S.fr' rfl),aK,aL,aG,(Zga af).2⟩
    have H:=Zy H D;refine ZE S rfl D (wp_exit (ZX ?_));obtain rfl:=Zg H;have hq:=ax _ rfl;subst hq;have H:=au;refine ZX (Zxa ?_);obtain rfl:=Zg H;refine Zb (aq _ _ ⟨_,_,I,k,v,e,_,rfl,(leT (leR _) M),(S.fr' rfl),B,C,ac⟩)
  rintro f w ⟨o,s,t,p,u,L,G,hq,a8,S,aM,aN,aO⟩;subst hq;have H:=ap;refine Zb (al _ _ (Zi fun _ aP=>?_));obtain ⟨a9,aQ,H⟩:=Za H;refine Zr (mv S rfl fun f S=>?_);obtain ⟨ba,bb,S,aR⟩:=S.pubSlice (i:=0) (A:=(Zc .u64)) (l:=o) (ℓ':=[]) rfl rfl aN aM rfl;refine opc S rfl (Zp S [.slice (mkA t) (p) u] Z5d rfl rfl) (Z1d S.vin (show Rep.rel (ZD (Zc .u64)) _ [.slice (mkA t) (p) u] o from aR) aQ) ?_;rintro _ bc f w bd ⟨be,rfl,ag⟩ S;obtain ⟨aS,aT,aU,rfl⟩:=Zca ag;refine mv S rfl fun f S=>mw S rfl fun f S=>mw S rfl fun f S=>Zq (Zb (aP _ _ (wp_ret ?_)));obtain rfl:=Zg H;refine ZC S (ZDa rfl (ZG S rfl) (ZG S rfl)) ⟨[.slice aS aT aU],[.int .u64 (s)],rfl,ag,(Zx aO)⟩
theorem ZYm {c : World} {b : Zd} (hv : VIn b c) {d : List Value} {a : Nat} (i : Rep.rel ZI b d a) {e : List Value} {n : Int} (f : Rep.rel (Zc .u64) b e n) {z : Nat × Int} (hm : Zwe a n = some z) :
    Ret Tryz.prog 167 #[ZI.val d,(Zc .u64).val e] c b (fun y v'=>∃ g h,y = Value.tuple #[ZI.val g,(Zc .u64).val h] ∧ ZI.rel v' g z.1 ∧ (Zc .u64).rel v' h z.2) :=
  Zpr hv i f (Zsq f.2 hm)
theorem cmp_w {m : World} {e : Zd} (hv : VIn e m) {A : List Value} {a : (List Int)} (c : Rep.rel (ZD (Zc .u64)) e A a) {B : List Value} {b : (List Int)} (d : Rep.rel (ZD (Zc .u64)) e B b) {z : Int} (H : Z8h a b = some z) : Ret Tryz.prog 87 #[(ZD (Zc .u64)).val A,(ZD (Zc .u64)).val B] m e (fun y v'=>∃ C,y = (Zc .i64).val C ∧ (Zc .i64).rel v' C z):=by
  obtain ⟨D,E,G,rfl⟩:=Z7a c;obtain ⟨I,J,L,rfl⟩:=Z7a d;refine ZW (K:=41) (args:=[.slice D (E) G,.slice I (J) L]) hv Tryz.func87 rfl rfl zl fun f S=>?_;unfold Z8h at H;refine sr (mw S rfl fun f S=>oe (Zi fun _ P=>sr (mv S rfl fun f S=>ov S rfl (ZP S (Zw c) rfl rfl ZV) fun f S=>mv S rfl fun f S=>ov S rfl (ZP S (Zw d) rfl rfl ZV) fun f S=>ov S rfl (Zk S rfl rfl Zdc) fun f S=>oe ?_)));rcases ZA (((a.length : Int)) != ((b.length : Int))) with g | g
  · have H:=Zz H g;refine ZF S rfl g (Zi fun _ Q=>sr (mv S rfl fun f S=>ov S rfl (ZP S (Zw c) rfl rfl ZV) fun f S=>mv S rfl fun f S=>ov S rfl (ZP S (Zw d) rfl rfl ZV) fun f S=>ov S rfl (Zk S rfl rfl Z4) fun f S=>oe ?_));rcases ZA (decide ((a.length : Int) < (b.length : Int))) with h | h
    · have H:=Zz H h;refine ZF S rfl h (sr (mw S rfl fun f S=>oe (wp_ret (ZQ (ZQ ?_)))));obtain rfl:=Zg H;refine ZC S (ZO rfl (ZG S rfl)) ⟨[.int .i64 ((-1 : Int))],rfl,(Zx (by decide))⟩
    have H:=Zy H h;refine ZE S rfl h (wp_skip (Zb (Q _ _ (sr (mw S rfl fun f S=>oe (wp_ret (ZQ ?_)))))));obtain rfl:=Zg H;refine ZC S (ZO rfl (ZG S rfl)) ⟨[.int .i64 ((1 : Int))],rfl,(Zx (by decide))⟩
  have H:=Zy H g;refine ZE S rfl g (wp_skip (Zb (P _ _ (Zi fun _ R=>Zi fun _ T=>?_))));obtain ⟨ar,M,H⟩:=Za H;refine Zr (mv S rfl fun f S=>ov S rfl (ZP S (Zw c) rfl rfl ZV) fun f S=>ov S rfl (Zk S rfl rfl (ZEa M)) fun f S=>mw S rfl fun f S=>Zq (Zb (T _ _ ?_)));obtain ⟨U,V,o⟩:=Za H;refine ZR (fun f w=>∃  (p : Zd),(.inl (())) = U ∧ Zd.le e p ∧ St 41 m e [] [] p f w) (fun _ W=>?_) ?_
  · have H:=V;refine wp_block ?_;obtain ⟨au,X,q⟩:=Za H;refine ZBa X (fun Y f w=>∃ (i : Int) (r : Zd),i = Y ∧ Zd.le e r ∧ St 41 m e [(0,.slice D (E) G),(1,.slice I (J) L),(5,.int .i64 (i))] [] r f w ∧ inR .i64 i) ⟨_,_,rfl,(leR _),(S.fr' rfl),(Zga M).2⟩ ?_;rintro _ f w st ⟨i,r,hq,n,S,av⟩ H aw Z s;subst hq;refine Zi fun _ aa=>sr (mv S rfl fun f S=>ov S rfl (Zk S rfl rfl ZEb) fun f S=>oe ?_);rcases ZA (decide ((0 : Int) ≤ i)) with j | j
    · have H:=Zz H j;refine ZF S rfl j (wp_skip (Zb (aa _ _ (Zi fun _ ab=>wp_block (Zi fun _ ac=>Zi fun _ ad=>?_)))));obtain ⟨ae,t,H⟩:=Za H;obtain ⟨af,u,H⟩:=Za H;refine Z8 (fl:=#[true,true,true,true,true,true,true,true,true]) Z7 (by kernel_rfl) S ?_;intro ops O F w S;refine rfa O F 0 rfl rfl S (Zs S rfl) fun f S=>rfa O F 1 rfl rfl S (Zs S rfl) fun f S=>?_;have c:=Zo n c;obtain ⟨_,ax,ay,az,rfl,ag,ah⟩:=Zma c (Zh t).2.1;obtain ⟨rfl,aA⟩:=ah;refine rfa O F 2 rfl rfl S (ZH S rfl rfl ZV (Zh t).1 (ltI (Zw c) (Zh t).2.2.1)) fun f S=>rfa O F 3 rfl rfl S (Zpa S rfl ZFa (S.view ag)) fun f S=>rfa O F 4 rfl rfl S (Zs S rfl) fun f S=>rfa O F 5 rfl rfl S (Zs S rfl) fun f S=>?_;have d:=Zo n d;obtain ⟨_,aB,aC,aD,rfl,ai,aj⟩:=Zma d (Zh u).2.1;obtain ⟨rfl,aE⟩:=aj;refine rfa O F 6 rfl rfl S (ZH S rfl rfl ZV (Zh u).1 (ltI (Zw d) (Zh u).2.2.1)) fun f S=>rfa O F 7 rfl rfl S (Zpa S rfl ZFa (S.view ai)) fun f S=>rfa O F 8 rfl rfl S (Zk S rfl rfl Z4) fun f S=>ZU O F (Zb (ad _ _ ?_));rcases ZA (decide (ae < af)) with k | k
      · have H:=Zz H k;refine ZF S rfl k (sr (mw S rfl fun f S=>oe (wp_ret (ZQ (ZOa (ZQ ?_))))));obtain rfl:=Zg H;have hq:=s _ rfl;subst hq;have H:=q;refine ZQ (ZOa ?_);obtain rfl:=Zg H;have H:=o;refine ZQ (ZQ ?_);obtain rfl:=Zg H;refine ZC S (ZO rfl (ZG S rfl)) ⟨[.int .i64 ((-1 : Int))],rfl,(Zx (by decide))⟩
      have H:=Zy H k;refine ZE S rfl k (wp_skip (Zb (ac _ _ (Zi fun _ ak=>?_))));obtain ⟨al,v,H⟩:=Za H;obtain ⟨am,x,H⟩:=Za H;refine Z8 (fl:=#[true,true,true,true,true,true,true,true,true]) Z7 (by kernel_rfl) S ?_;intro ops O F w S;refine rfa O F 0 rfl rfl S (Zs S rfl) fun f S=>rfa O F 1 rfl rfl S (Zs S rfl) fun f S=>?_;obtain ⟨aF,an,ao⟩:=Z9 c (Zh v).2.1;obtain ⟨rfl,aG⟩:=ao;refine rfa O F 2 rfl rfl S (ZH S rfl rfl ZV (Zh v).1 (ltI (Zw c) (Zh v).2.2.1)) fun f S=>rfa O F 3 rfl rfl S (Zpa S rfl ZFa (S.view an)) fun f S=>rfa O F 4 rfl rfl S (Zs S rfl) fun f S=>rfa O F 5 rfl rfl S (Zs S rfl) fun f S=>?_;obtain ⟨aH,ap,aq⟩:=Z9 d (Zh x).2.1;obtain ⟨rfl,aI⟩:=aq;refine rfa O F 6 rfl rfl S (ZH S rfl rfl ZV (Zh x).1 (ltI (Zw d) (Zh x).2.2.1)) fun f S=>rfa O F 7 rfl rfl S (Zpa S rfl ZFa (S.view ap)) fun f S=>rfa O F 8 rfl rfl S (Zk S rfl rfl ZCa) fun f S=>ZU O F (Zb (ak _ _ ?_));rcases ZA (decide (am < al)) with l | l
      · have H:=Zz H l;refine ZF S rfl l (sr (mw S rfl fun f S=>oe (wp_ret (ZOa (ZQ ?_)))));obtain rfl:=Zg H;have hq:=s _ rfl;subst hq;have H:=q;refine ZQ (ZOa ?_);obtain rfl:=Zg H;have H:=o;refine ZQ (ZQ ?_);obtain rfl:=Zg H;refine ZC S (ZO rfl (ZG S rfl)) ⟨[.int .i64 ((1 : Int))],rfl,(Zx (by decide))⟩
      have H:=Zy H l;refine ZE S rfl l (wp_skip (Zta (Zb (ab _ _ ?_))));obtain ⟨aJ,N,H⟩:=Za H;refine Zr (mv S rfl fun f S=>ov S rfl (Zk S rfl rfl (ZEa N)) fun f S=>mw S rfl fun f S=>Zq ?_);obtain rfl:=Zg H;refine Z _ rfl _ _ ⟨_,_,rfl,n,(S.fr' rfl),(Zga N).2⟩
    have H:=Zy H j;refine ZE S rfl j (wp_exit (ZX ?_));obtain rfl:=Zg H;have hq:=s _ rfl;subst hq;have H:=q;refine ZX (Zxa ?_);obtain rfl:=Zg H;refine Zb (W _ _ ⟨_,rfl,(leT (leR _) n),(S.fr' rfl)⟩)
  rintro f w ⟨p,hq,aK,S⟩;subst hq;have H:=o;refine Zb (R _ _ (sr (mw S rfl fun f S=>oe (wp_ret ?_))));obtain rfl:=Zg H;refine ZC S (ZO rfl (ZG S rfl)) ⟨[.int .i64 ((0 : Int))],rfl,(Zx (by decide))⟩
theorem cmp_c {d : World} {c : Zd} (hv : VIn c d) {e : List Value} {a : Nat} (f : Rep.rel ZI c e a) {g : List Value} {b : Nat} (h : Rep.rel ZI c g b) {z : Int} (hm : cmpF a b = some z) :
    Ret Tryz.prog 87 #[ZI.val e,ZI.val g] d c (fun y v'=>∃ i,y = (Zc .i64).val i ∧ (Zc .i64).rel v' i z) :=
  cmp_w hv f h ((cmp_eq (Zxn f) (Zxn h)).trans hm)
theorem mul64_w {e : World} {a : Zd} (hv : VIn a e) {g : List Value} {x : Int} (l : Rep.rel (Zc .u64) a g x) {h : List Value} {y : Int} (m : Rep.rel (Zc .u64) a h y) {z : Int × Int} (H : Zhh x y = some z) : Ret Tryz.prog 147 #[(Zc .u64).val g,(Zc .u64).val h] e a (fun y v'=>∃ i c,y = .tuple #[(Zc .u64).val i,(Zc .u64).val c] ∧ (Zc .u64).rel v' i z.1 ∧ (Zc .u64).rel v' c z.2):=by
  obtain ⟨rfl,c⟩:=l;obtain ⟨rfl,B⟩:=m;refine ZW (K:=51) (args:=[.int .u64 (x),.int .u64 (y)]) hv Tryz.func147 rfl rfl zl fun f S=>?_;unfold Zhh at H;refine sr (mw S rfl fun f S=>mw S rfl fun f S=>oe (sr (mv S rfl fun f S=>ov S rfl (Zk S rfl rfl Z2e) fun f S=>mw S rfl fun f S=>oe (Zi fun _ n=>?_))));obtain ⟨b,o,H⟩:=Za H;refine Zr (mv S rfl fun f S=>ov S rfl (Zk S rfl rfl (ZDb o)) fun f S=>mw S rfl fun f S=>Zq (Zb (n _ _ (sr (mv S rfl fun f S=>ov S rfl (Zk S rfl rfl Z2e) fun f S=>mw S rfl fun f S=>oe (Zi fun _ p=>?_))))));obtain ⟨d,q,H⟩:=Za H;refine Zr (mv S rfl fun f S=>ov S rfl (Zk S rfl rfl (ZDb q)) fun f S=>mw S rfl fun f S=>Zq (Zb (p _ _ (sr (mv S rfl fun f S=>mv S rfl fun f S=>ov S rfl (Zk S rfl rfl Znc) fun f S=>mw S rfl fun f S=>oe (Zi fun _ r=>?_))))));obtain ⟨s,t,H⟩:=Za H;refine Zr (mv S rfl fun f S=>mv S rfl fun f S=>ov S rfl (Zk S rfl rfl Znc) fun f S=>mv S rfl fun f S=>ov S rfl (Zk S rfl rfl (ZDb t)) fun f S=>ov S rfl (Zk S rfl rfl ZTb) fun f S=>mw S rfl fun f S=>Zq ?_);have S:=S.fr' (σ':=[(0,.int .u64 (x)),(1,.int .u64 (y)),(6,.int .u64 (ZUa .u64 x ((4294967295 : Int)))),(7,.int .u64 (b)),(9,.int .u64 (d)),(11,.int .u64 (IntKind.u64.wrap ((IntKind.u64.wrap (b * (ZUa .u64 y ((4294967295 : Int))))) + s)))]) rfl
  refine Zb (r _ _ (sr (mv S rfl fun f S=>ov S rfl (Zk S rfl rfl Z2e) fun f S=>mw S rfl fun f S=>oe (Zi fun _ u=>?_))));obtain ⟨j,v,H⟩:=Za H;refine Zr (mv S rfl fun f S=>ov S rfl (Zk S rfl rfl (ZDb v)) fun f S=>mw S rfl fun f S=>Zq (Zb (u _ _ (sr (mv S rfl fun f S=>mv S rfl fun f S=>mv S rfl fun f S=>ov S rfl (Zk S rfl rfl Znc) fun f S=>ov S rfl (Zk S rfl rfl ZTb) fun f S=>mw S rfl fun f S=>oe ?_)))));refine Zi fun _ w=>?_;obtain ⟨k,A,H⟩:=Za H;refine Zr (mv S rfl fun f S=>mv S rfl fun f S=>ov S rfl (Zk S rfl rfl Znc) fun f S=>mv S rfl fun f S=>ov S rfl (Zk S rfl rfl ZTb) fun f S=>mv S rfl fun f S=>ov S rfl (Zk S rfl rfl (ZDb A)) fun f S=>ov S rfl (Zk S rfl rfl ZTb) fun f S=>mw S rfl fun f S=>Zq (Zb (w _ _ (sr (mv S rfl fun f S=>?_)))));refine mv S rfl fun f S=>ov S rfl (Zk S rfl rfl Znc) fun f S=>mw S rfl fun f S=>?_;have S:=S.fr' (σ':=[(4,.int .u64 (IntKind.u64.wrap ((IntKind.u64.wrap ((IntKind.u64.wrap (b * d)) + j)) + k))),(5,.int .u64 (IntKind.u64.wrap (x * y)))]) rfl;refine oe (wp_ret ?_);obtain rfl:=Zg H;refine ZC S (ZDa rfl (ZG S rfl) (ZG S rfl)) ⟨[.int .u64 (IntKind.u64.wrap ((IntKind.u64.wrap ((IntKind.u64.wrap (b * d)) + j)) + k))],[.int .u64 (IntKind.u64.wrap (x * y))],rfl,(Zx (Zza _ _)),(Zx (Zza _ _))⟩
theorem Zjk {b : World} {a : Zd} (hv : VIn a b) {c : List Value} {x : Int} (g : Rep.rel (Zc .u64) a c x) {d : List Value} {y : Int} (h : Rep.rel (Zc .u64) a d y) {z : Int × Int} (hm : Z2d x y = some z) :
    Ret Tryz.prog 147 #[(Zc .u64).val c,(Zc .u64).val d] b a (fun y v'=>∃ e f,y = Value.tuple #[(Zc .u64).val e,(Zc .u64).val f] ∧ (Zc .u64).rel v' e z.1 ∧ (Zc .u64).rel v' f z.2) :=
  mul64_w hv g h (ZDo hm)
theorem take_w {R : World} {o : Zd} (hv : VIn o R) {a off0 g C : Nat} {E : TypeId} {pre0 cs0 post0 : List Value} {u : (List Int)} (bf : R.heap[a]? = some (.cells (pre0 ++ cs0 ++ post0).toArray E (0,0))) (aG : off0 = pre0.length) (bg : o a = none) (au : g = u.length) (bh : g ≤ C ∧ C ≤ maxLen) (r : Rep.rels (Zc .u64) o cs0 u) {c1 : List Value} {v : Nat} (D : Rep.rel ZI o c1 v) {c2 : List Value} {q : Int} (p2 : Rep.rel (Zc .u64) o c2 q) {z : Bool × (List Int)} (H : ZQg u v q = some z) : RetL Tryz.prog 197 #[.slice (some ⟨a,off0,none⟩) g C,ZI.val c1,(Zc .u64).val c2] R o [a] (fun y v' w'=>(∃ r0,y = Zra.val r0 ∧ Zra.rel v' r0 z.1) ∧ v' a = none ∧ ∃ cs,w'.heap[a]? = some (.cells (pre0 ++ cs ++ post0).toArray E (0,0)) ∧ g = z.2.length ∧ Rep.rels (Zc .u64) v' cs z.2):=by
  obtain ⟨q1,V,W,rfl⟩:=Zca D;obtain ⟨rfl,r4⟩:=p2;refine Zqn (K:=79) (args:=[.slice (some ⟨a,off0,none⟩) (g) C,.slice q1 V W,.int .u64 (q)]) hv bf bg Tryz.func197 rfl rfl zl fun f S=>?_;unfold ZQg at H;refine sr (mw S rfl fun f S=>oe (Zi fun _ bi=>?_));obtain ⟨J,bj,H⟩:=Za H;obtain ⟨cC,av,H⟩:=Za H;refine Zr (mv S rfl fun f S=>ov S rfl (ZP S (Zw D) rfl rfl ZV) fun f S=>ov S rfl (Zk S rfl rfl (Zja bj)) fun f S=>?_);obtain ⟨aH,aQ⟩ : ∃ c : List Value,c = (List.replicate (J).toNat [.int .u64 ((0 : Int))]).flatten:=⟨_,rfl⟩;obtain ⟨aR,w,bk,S⟩:=Zpc Z0c S (l:=J) (c:=J) (Zfa av).1 (Zfa av).2.1 (Zfa av).2.2.1 (Zfa av).2.2.2 aQ;have bm : Rep.rels (Zc .u64) o aH (List.replicate (J).toNat ((0 : Int))):=by rw [aQ];exact ZYb (show Rep.rel (Zc .u64) _ [.int .u64 ((0 : Int))] _ from (Zx (by decide))) _
  refine ZAa wn rfl zl (bk rfl rfl) S fun f S=>mw S rfl fun f S=>Zq (Zb (bi _ _ (sr (mw S rfl fun f S=>oe (Zi fun _ bn=>sr (mv S rfl fun f S=>ov S rfl (ZP S (Zw D) rfl rfl ZV) fun f S=>mv S rfl fun f S=>oe ?_))))));obtain ⟨bo,bp,bq⟩:=Za H;refine ZR (fun f w=>∃ (L : (List Int)) (b : Int) (aI : Option Nat) (s : Nat) (G : Nat) (h : List Value) (X : Zd),(L,b) = bo ∧ Zd.le o X ∧ St 79 ⟨R,[a]⟩ o [(0,.slice (some ⟨a,off0,none⟩) (g) C),(1,.slice q1 V W),(7,.slice (mkA aI) (s) G),(8,.int .u64 (b))] [Loc.box a E (pre0 ++ cs0 ++ post0),Loc.own aI 211 1 (s) G h] X f w ∧ Rep.rels (Zc .u64) X h L ∧ s = L.length ∧ inR .u64 b) (fun _ br=>?_) ?_
  · have H:=bp;refine wp_block ?_;obtain ⟨cD,bs,bt⟩:=Za H;have S:=S.reorder (ℓ':=[Loc.box a E (pre0 ++ cs0 ++ post0),Loc.own (some aR) 211 1 ((J).toNat) (J).toNat aH]) [1,0] rfl (by decide);refine ZBa bs (fun bu f w=>∃ (Y : (List Int)) (ag : Int) (m : Int) (aw : Option Nat) (M : Nat) (Z : Nat) (I : List Value) (ax : Zd),(Y,ag,m) = bu ∧ Zd.le o ax ∧ St 79 ⟨R,[a]⟩ o [(0,.slice (some ⟨a,off0,none⟩) (g) C),(1,.slice q1 V W),(2,.int .u64 (q)),(7,.slice (mkA aw) (M) Z),(8,.int .u64 (ag)),(20,.slice q1 V W),(21,.int .i64 ((((Zl 18446744073709551616 v)).length : Int))),(22,.int .i64 (m))] [Loc.box a E (pre0 ++ cs0 ++ post0),Loc.own aw 211 1 (M) Z I] ax f w ∧ Rep.rels (Zc .u64) ax I Y ∧ M = Y.length ∧ inR .u64 ag ∧ inR .i64 m) ⟨_,_,_,some aR,(J).toNat,(J).toNat,aH,_,rfl,(leR _),(S.fr' rfl),bm,(ZMb (x:=(0 : Int))),(by decide),(by decide)⟩ ?_;rintro _ f w st ⟨Y,ag,m,aw,M,Z,I,ax,hq,ay,S,ah,ai,bv,cE⟩ H cF bw bx;subst hq;have r:=Z2 ay r;refine sr (ov S rfl (Zk S rfl rfl Z4) fun f S=>oe (Zi fun _ bz=>?_));rcases ZA (decide (m < (((Zl 18446744073709551616 v)).length : Int))) with aj | aj
    · have H:=Zz H aj;refine ZF S rfl aj (wp_skip (Zb (bz _ _ (Zi fun _ bA=>wp_block (Zi fun _ bB=>?_)))));obtain ⟨aJ,aK,H⟩:=Za H;refine Zr (mv S rfl fun f S=>?_);have D:=Zo ay D;obtain ⟨_,aS,aT,cH,rfl,bC,bD⟩:=Zma D (Zh aK).2.1;obtain ⟨rfl,bE⟩:=bD;refine ov S rfl (ZH S rfl rfl ZV (Zh aK).1 (ltI (Zw D) (Zh aK).2.2.1)) fun f S=>ov S rfl (Zpa S rfl ZFa (S.view bC)) fun f S=>mw S rfl fun f S=>mw S rfl fun f S=>Zq (Zb (bB _ _ (Zi fun _ bF=>?_)));obtain ⟨aU,bG,H⟩:=Za H;refine Zr (mv S rfl fun f S=>mv S rfl fun f S=>opc S rfl (Zp S [.int .u64 (aJ),.int .u64 (q)] Z4j rfl rfl) (Zjk S.vin (show Rep.rel (Zc .u64) _ [.int .u64 (aJ)] aJ from (Zx bE)) (show Rep.rel (Zc .u64) _ [.int .u64 (q)] q from (Zx r4)) bG) ?_);rintro _ aV f w aL ⟨cI,cJ,rfl,bH,bI⟩ S;have r:=Z2 aL r;have ah:=Z2 aL ah;obtain ⟨rfl,cK⟩:=bH;obtain ⟨rfl,cL⟩:=bI;refine mv S rfl fun f S=>ov S rfl (ZB S rfl rfl) fun f S=>ov S rfl (ZB S rfl rfl) fun f S=>mw S rfl fun f S=>mw S rfl fun f S=>Zq (Zb (bF _ _ (sr (mw S rfl fun f S=>oe (Zi fun _ bJ=>?_)))));obtain ⟨N,aW,H⟩:=Za H;obtain ⟨cM,aa,H⟩:=Za H;refine Zr (mv S rfl fun f S=>mv S rfl fun f S=>mv S rfl fun f S=>mv S rfl fun f S=>ov S rfl (Ztc S [.int .u64 (aU.2),.int .u64 (ag),.int .u64 ((0 : Int))] (Zeh Z7g aW) rfl rfl) fun f S=>mv S rfl fun f S=>ov S rfl (ZB S rfl rfl) fun f S=>ov S rfl (ZB S rfl rfl) fun f S=>?_)
      obtain ⟨aX,rfl⟩:=ZXb S (j:=1) rfl (Z9b ai (Zh aa).2.2.2);have aY:=ZZa ah (Zh aa).2.1;obtain ⟨cN,bK⟩ : ∃ c,(List.take (Zc .u64).n (List.drop ((m).toNat * (Zc .u64).n) I)) = c:=⟨_,rfl⟩;rw [bK] at aY;obtain ⟨rfl,cO⟩:=aY;refine ov S rfl (ZH S rfl rfl ZV (Zh aa).1 (ltI ai (Zh aa).2.2.1)) fun f S=>?_;obtain ⟨w,bL,S⟩:=Z3b S ZFa (off:=0 + (m).toNat * 1) (z:=.int .u64 (N.1)) (cs:=[.int .u64 (N.1)]) (ZLb rfl) rfl (i:=1) rfl (Z4b S (j:=1) rfl (ltN ai (Zh aa).2.2.2)) (by first | rfl | simp [Z1a]);have bM : Rep.rels (Zc .u64) aV (List.take (0 + (m).toNat * 1) I ++ [Value.int IntKind.u64 (N.1)] ++ List.drop (0 + (m).toNat * 1 + 1) I) (Y.set (m).toNat N.1):=ZPb ah (Zh aa).2.2.2 (show Rep.rel (Zc .u64) aV [.int .u64 (N.1)] _ from (Zx (ZPj aW))) rfl rfl;have bN : M = (Y.set (m).toNat N.1).length:=ZUb ai;refine ZY wn rfl (bL rfl rfl) (mw S rfl fun f S=>Zq ?_);have S:=S.fr' (σ':=[(0,.slice (some ⟨a,off0,none⟩) (g) C),(1,.slice (some ⟨aS,aT,none⟩) V W),(2,.int .u64 (q)),(7,.slice (mkA (some aX)) (M) Z),(11,.int .u64 (aU.1)),(13,.int .u64 (N.2)),(20,.slice (some ⟨aS,aT,none⟩) V W),(21,.int .i64 ((((Zl 18446744073709551616 v)).length : Int))),(22,.int .i64 (m))]) rfl
      refine Zb (bJ _ _ (Zr (mv S rfl fun f S=>mv S rfl fun f S=>ov S rfl (Zk S rfl rfl ZTb) fun f S=>mw S rfl fun f S=>Zq (Zta (Zb (bA _ _ ?_))))));obtain ⟨cP,aZ,H⟩:=Za H;refine Zr (ov S rfl (Zk S rfl rfl (Zja aZ)) fun f S=>mv S rfl fun f S=>Zq ?_);obtain rfl:=Zg H;refine bw _ rfl _ _ ⟨_,_,_,some aX,M,Z,(List.take (0 + (m).toNat * 1) I ++ [Value.int IntKind.u64 (N.1)] ++ List.drop (0 + (m).toNat * 1 + 1) I),_,rfl,(leT ay aL),(S.fr' rfl),bM,bN,(Zza _ _),(Zga aZ).2⟩
    have H:=Zy H aj;refine ZE S rfl aj (wp_exit (ZX ?_));obtain rfl:=Zg H;have hq:=bx _ rfl;subst hq;have H:=bt;refine ZX (Zxa ?_);obtain rfl:=Zg H;refine Zb (br _ _ ⟨_,_,aw,M,Z,I,_,rfl,(leT (leR _) ay),(S.fr' rfl),ah,ai,bv⟩)
  rintro f w ⟨L,b,aI,s,G,h,X,hq,a0,S,a1,az,bO⟩;subst hq;have H:=bq;have r:=Z2 a0 r;refine Zb (bn _ _ (Zi fun _ bP=>?_));obtain ⟨cQ,ab,H⟩:=Za H;refine Zr (mv S rfl fun f S=>mv S rfl fun f S=>?_);have D:=Zo a0 D;refine ov S rfl (ZP S (Zw D) rfl rfl ZV) fun f S=>mv S rfl fun f S=>?_;obtain ⟨ac,rfl⟩:=ZXb S (j:=1) rfl (Z9b az (Zh ab).2.2.2);have a2:=ZZa a1 (Zh ab).2.1;obtain ⟨cR,bQ⟩ : ∃ c,(List.take (Zc .u64).n (List.drop (((((Zl 18446744073709551616 v)).length : Int)).toNat * (Zc .u64).n) h)) = c:=⟨_,rfl⟩;rw [bQ] at a2;obtain ⟨rfl,cS⟩:=a2;refine ov S rfl (ZH S rfl rfl ZV (Zh ab).1 (ltI az (Zh ab).2.2.1)) fun f S=>?_;obtain ⟨w,bR,S⟩:=Z3b S ZFa (off:=0 + ((((Zl 18446744073709551616 v)).length : Int)).toNat * 1) (z:=.int .u64 (b)) (cs:=[.int .u64 (b)]) (ZLb rfl) rfl (i:=1) rfl (Z4b S (j:=1) rfl (ltN az (Zh ab).2.2.2)) (by first | rfl | simp [Z1a]);have p : Rep.rels (Zc .u64) X (List.take (0 + ((((Zl 18446744073709551616 v)).length : Int)).toNat * 1) h ++ [Value.int IntKind.u64 (b)] ++ List.drop (0 + ((((Zl 18446744073709551616 v)).length : Int)).toNat * 1 + 1) h) (L.set ((((Zl 18446744073709551616 v)).length : Int)).toNat b):=ZPb a1 (Zh ab).2.2.2 (show Rep.rel (Zc .u64) X [.int .u64 (b)] _ from (Zx bO)) rfl rfl
  have aM : s = (L.set ((((Zl 18446744073709551616 v)).length : Int)).toNat b).length:=ZUb az;refine ZY wn rfl (bR rfl rfl) (Zq (Zb (bP _ _ (Zi fun _ bS=>Zi fun _ bT=>?_))));obtain ⟨cT,bU,H⟩:=Za H;obtain ⟨cU,bV,H⟩:=Za H;obtain ⟨bW,bX,H⟩:=Za H;refine Zr (mv S rfl fun f S=>?_);have p0s120:=r;have h69s120:=p;have bY:=S.vst.le;obtain ⟨cV,cW,a3,t,S,bZ,b1,b2,T⟩:=S.lendSeg (i:=0) (A:=(Zc .u64)) (l:=u) (ℓ':=[Loc.own (some ac) 211 1 (s) G ((List.take (0 + ((((Zl 18446744073709551616 v)).length : Int)).toNat * 1) h ++ [Value.int IntKind.u64 (b)] ++ List.drop (0 + ((((Zl 18446744073709551616 v)).length : Int)).toNat * 1 + 1) h))]) rfl rfl aG r au bh;have p:=Z2 a3 p;refine opc S rfl (Zp S [.slice (some ⟨a,off0,none⟩) (g) C] Z5d rfl rfl) (Z1d S.vin (show Rep.rel (ZD (Zc .u64)) _ [.slice (some ⟨a,off0,none⟩) (g) C] u from T) bU) ?_;rintro _ cX f w aA ⟨cY,rfl,P⟩ S;have p:=Z2 aA p;have t:=aA _ _ t;obtain ⟨b3,b4,b5,rfl⟩:=Zca P;refine mv S rfl fun f S=>?_;have T:=Zo aA T;have h128s137:=T;have h69s137:=p;have h133s137:=P;have h124s137:=t;have b6:=S.vst.le;obtain ⟨cZ,c0,aB,ak,S,b7,b8,b9,ca⟩:=S.lendSlice (i:=0) (A:=(Zc .u64)) (l:=(L.set ((((Zl 18446744073709551616 v)).length : Int)).toNat b)) (ℓ':=[]) rfl rfl rfl p aM
  have t:=aB _ _ t;refine opc S rfl (Zp S [.slice (mkA (some ac)) (s) G] Z5d rfl rfl) (Z1d S.vin (show Rep.rel (ZD (Zc .u64)) _ [.slice (mkA (some ac)) (s) G] ((L.set ((((Zl 18446744073709551616 v)).length : Int)).toNat b)) from ca) bV) ?_;rintro _ c3 f w al ⟨c4,rfl,a4⟩ S;have t:=al _ _ t;have ak:=al _ _ ak;obtain ⟨cb,cc,cd,rfl⟩:=Zca a4;have P:=Zo (leT aB al) P;refine opc S rfl (Zp S [.slice b3 b4 b5,.slice cb cc cd] Zfl rfl rfl) (cmp_c S.vin P a4 bX) ?_;rintro _ c5 f w am ⟨c6,rfl,ce⟩ S;have t:=am _ _ t;have ak:=am _ _ ak;obtain ⟨rfl,c7⟩:=ce;refine ov S rfl (Zk S rfl rfl Z4) fun f S=>Zq ?_;obtain ⟨c8,an,S⟩:=S.takeBack (e:=Loc.own (some ac) 211 1 (s) G ((List.take (0 + ((((Zl 18446744073709551616 v)).length : Int)).toNat * 1) h ++ [Value.int IntKind.u64 (b)] ++ List.drop (0 + ((((Zl 18446744073709551616 v)).length : Int)).toNat * 1 + 1) h))) (leT (leT aB al) am) rfl ak b7 b8 b6 b9;have T:=Zo (leT (leT aB al) am) T;have T:=Zo an h128s137;have p:=Z2 an h69s137;have P:=Zo am P;have P:=Zo an h133s137;have t:=an _ _ h124s137;obtain ⟨a5,a6,S⟩:=S.takeBack (e:=Loc.box a E (pre0 ++ cs0 ++ post0)) (leT (leT a3 aA) an) rfl t bZ b1 bY b2;have r:=Z2 a6 p0s120
  have p:=Z2 a6 h69s120;refine Zb (bT _ _ ?_);rcases ZA (decide (bW < (0 : Int))) with ao | ao
  · have H:=Zz H ao;refine ZF S rfl ao (sr (mw S rfl fun f S=>oe (wp_ret (ZQ ?_))));obtain rfl:=Zg H;refine Z9k S (ZO rfl (ZG S rfl)) ⟨⟨[.bool (false)],rfl,Z3a⟩,(S.boxAt (j:=0) rfl).2,_,(S.boxAt (j:=0) rfl).1,au,r⟩
  have H:=Zy H ao;refine ZE S rfl ao (wp_skip (Zb (bS _ _ (sr (mw S rfl fun f S=>oe (Zi fun _ cg=>sr (mv S rfl fun f S=>ov S rfl (ZP S au rfl rfl ZV) fun f S=>mv S rfl fun f S=>oe ?_)))))));obtain ⟨ch,ci,cj⟩:=Za H;refine ZR (fun f w=>∃ (aC : (List Int)) (aN : List Value) (aD : Zd),aC = ch ∧ Zd.le a5 aD ∧ St 79 ⟨R,[a]⟩ o [] [Loc.box a E (pre0 ++ aN ++ post0)] aD f w ∧ Rep.rels (Zc .u64) aD aN aC ∧ g = aC.length) (fun _ ck=>?_) ?_
  · have H:=ci;refine wp_block ?_;obtain ⟨c9,cl,cm⟩:=Za H;refine ZBa cl (fun cn f w=>∃ (ad : (List Int)) (ap : Int) (d : Int) (B : List Value) (ae : Zd),(ad,ap,d) = cn ∧ Zd.le a5 ae ∧ St 79 ⟨R,[a]⟩ o [(0,.slice (some ⟨a,off0,none⟩) (g) C),(7,.slice (mkA (some ac)) (s) G),(14,.int .u64 (ap)),(58,.int .i64 ((u.length : Int))),(59,.int .i64 (d))] [Loc.box a E (pre0 ++ B ++ post0),Loc.own (some ac) 211 1 (s) G ((List.take (0 + ((((Zl 18446744073709551616 v)).length : Int)).toNat * 1) h ++ [Value.int IntKind.u64 (b)] ++ List.drop (0 + ((((Zl 18446744073709551616 v)).length : Int)).toNat * 1 + 1) h))] ae f w ∧ Rep.rels (Zc .u64) ae B ad ∧ g = ad.length ∧ inR .u64 ap ∧ inR .i64 d) ⟨_,_,_,cs0,_,rfl,(leR _),(S.fr' rfl),r,au,(by decide),(by decide)⟩ ?_;rintro _ f w st ⟨ad,ap,d,B,ae,hq,aO,S,af,Q,da,db⟩ H dc co cp;subst hq;have p:=Z2 aO p;refine sr (ov S rfl (Zk S rfl rfl Z4) fun f S=>oe (Zi fun _ cq=>?_));rcases ZA (decide (d < (u.length : Int))) with aq | aq
    · have H:=Zz H aq;refine ZF S rfl aq (wp_skip (Zb (cq _ _ (Zi fun _ cr=>wp_block (sr (mv S rfl fun f S=>mw S rfl fun f S=>oe ?_))))));obtain ⟨a7,aE,H⟩:=Za H;obtain ⟨a8,aF,H⟩:=Za H;obtain ⟨U,aP,H⟩:=Za H;obtain ⟨dd,ar,H⟩:=Za H;refine Z8 (fl:=#[true,true,true,true,true,true,true,true,true,true,true,false,true,true,true,true,false,false]) Z7 (by kernel_rfl) S ?_;intro ops O F w S;refine rfa O F 0 rfl rfl S (Zs S rfl) fun f S=>rfa O F 1 rfl rfl S (Zs S rfl) fun f S=>rfa O F 2 rfl rfl S (Zs S rfl) fun f S=>rfa O F 3 rfl rfl S (Zs S rfl) fun f S=>?_;have a9:=ZZa af (Zh aE).2.1;obtain ⟨de,ba⟩ : ∃ c,(List.take (Zc .u64).n (List.drop ((d).toNat * (Zc .u64).n) B)) = c:=⟨_,rfl⟩;rw [ba] at a9;obtain ⟨rfl,ct⟩:=a9;refine rfa O F 4 rfl rfl S (ZH S rfl rfl ZV (Zh aE).1 (ltI Q (Zh aE).2.2.1)) fun f S=>rfa O F 5 rfl rfl S (Zpa S rfl ZFa (Zoh S (j:=0) rfl aG (Z0b af Q) ba (ltN Q (Zh aE).2.2.2) 0 [.int .u64 (a7)] rfl zl)) fun f S=>rfa O F 6 rfl rfl S (Zs S rfl) fun f S=>rfa O F 7 rfl rfl S (Zs S rfl) fun f S=>?_;have bb:=ZZa p (Zh aF).2.1;obtain ⟨df,bc⟩ : ∃ c,(List.take (Zc .u64).n (List.drop ((d).toNat * (Zc .u64).n) (List.take (0 + ((((Zl 18446744073709551616 v)).length : Int)).toNat * 1) h ++ [Value.int IntKind.u64 (b)] ++ List.drop (0 + ((((Zl 18446744073709551616 v)).length : Int)).toNat * 1 + 1) h))) = c:=⟨_,rfl⟩
      rw [bc] at bb;obtain ⟨rfl,cu⟩:=bb;refine rfa O F 8 rfl rfl S (ZH S rfl rfl ZV (Zh aF).1 (ltI aM (Zh aF).2.2.1)) fun f S=>rfa O F 9 rfl rfl S (Zpa S rfl ZFa (ZCf S (j:=1) rfl bc (ltN aM (Zh aF).2.2.2) 0 [.int .u64 (a8)] rfl zl)) fun f S=>rfa O F 10 rfl rfl S (Zs S rfl) fun f S=>go1 O F 11 (nva [5,9,10,4,8,2,3,6,7] [0,1] O rfl rfl S (Ztc S [.int .u64 (a7),.int .u64 (a8),.int .u64 (ap)] (ZMm Zen ct cu aP) rfl rfl) fun f S=>⟨(py S rfl rfl (Zs S rfl) (py S rfl rfl (Zs S rfl) Zn)),rfa O F 12 rfl rfl S (Zs S rfl) fun f S=>rfa O F 13 rfl rfl S (ZB S rfl rfl) fun f S=>rfa O F 14 rfl rfl S (ZB S rfl rfl) fun f S=>?_⟩);have bd:=ZZa af (Zh ar).2.1;obtain ⟨dg,cv⟩ : ∃ c,(List.take (Zc .u64).n (List.drop ((d).toNat * (Zc .u64).n) B)) = c:=⟨_,rfl⟩;rw [cv] at bd;obtain ⟨rfl,dh⟩:=bd;refine rfa O F 15 rfl rfl S (ZH S rfl rfl ZV (Zh ar).1 (ltI Q (Zh ar).2.2.1)) fun f S=>go1 O F 16 ?_;obtain ⟨w,cw,S⟩:=Zgo S (k:=(d).toNat) ZFa (z:=.int .u64 (U.1)) (c:=[.int .u64 (U.1)]) (ZLb rfl) rfl (i:=0) rfl aG (Z0b af Q) (ltN Q (Zh ar).2.2.2) rfl (by first | rfl | simp [Z1a]);have cx : Rep.rels (Zc .u64) ae (List.take (0 + (d).toNat * 1) B ++ [Value.int IntKind.u64 (U.1)] ++ List.drop (0 + (d).toNat * 1 + 1) B) (ad.set (d).toNat U.1):=ZPb af (Zh ar).2.2.2 (show Rep.rel (Zc .u64) ae [.int .u64 (U.1)] _ from (Zx (ZPm aP))) rfl rfl
      have cy : g = (ad.set (d).toNat U.1).length:=ZUb Q;refine nxs [0,1,2,3,4,5,6,7,8,9,10,11,12,13,15] [14] O rfl rfl (cw rfl rfl) (⟨(py S rfl rfl (ZB S rfl rfl) Zn),go1 O F 17 (nva [0,1,2,3,4,5,6,7,8,9,10,11,12,13,14,15,16] [] O rfl rfl S (Zua S rfl) fun f S=>⟨Zn,ZU O F (Zta (Zb (cr _ _ ?_)))⟩)⟩);obtain ⟨di,be,H⟩:=Za H;refine Zr (ov S rfl (Zk S rfl rfl (Zja be)) fun f S=>mv S rfl fun f S=>Zq ?_);obtain rfl:=Zg H;refine co _ rfl _ _ ⟨_,_,_,(List.take (0 + (d).toNat * 1) B ++ [Value.int IntKind.u64 (U.1)] ++ List.drop (0 + (d).toNat * 1 + 1) B),_,rfl,aO,(S.fr' rfl),cx,cy,(Zyn aP),(Zga be).2⟩
    have H:=Zy H aq;refine ZE S rfl aq (wp_exit (ZX ?_));obtain rfl:=Zg H;have hq:=cp _ rfl;subst hq;have H:=cm;refine ZX (Zxa ?_);obtain rfl:=Zg H;have S:=S.reorder (ℓ':=[Loc.box a E (pre0 ++ B ++ post0)]) [0] rfl (by decide);refine Zb (ck _ _ ⟨_,B,_,rfl,(leT (leR _) aO),(S.fr' rfl),af,Q⟩)
  rintro f w ⟨aC,aN,aD,hq,dj,S,cz,cA⟩;subst hq;have H:=cj;refine Zb (cg _ _ (sr (mw S rfl fun f S=>oe (wp_ret ?_))));obtain rfl:=Zg H;refine Z9k S (ZO rfl (ZG S rfl)) ⟨⟨[.bool (true)],rfl,Z3a⟩,(S.boxAt (j:=0) rfl).2,_,(S.boxAt (j:=0) rfl).1,cA,cz⟩
theorem take_c {d : World} {a : Zd} (hv : VIn a d) {b off0 c e : Nat} {f : TypeId} {pre0 cs0 post0 : List Value} {u : (List Int)} (l : d.heap[b]? = some (.cells (pre0 ++ cs0 ++ post0).toArray f (0,0))) (m : off0 = pre0.length) (n : a b = none) (o : c = u.length) (p : c ≤ e ∧ e ≤ maxLen) (g : Rep.rels (Zc .u64) a cs0 u) {h : List Value} {v : Nat} (r : Rep.rel ZI a h v) {i : List Value} {q : Int} (j : Rep.rel (Zc .u64) a i q) {z : Bool × (List Int)} (hm : Zig u v q = some z) :
    RetL Tryz.prog 197 #[Value.slice (some ⟨b,off0,none⟩) c e,ZI.val h,(Zc .u64).val i] d a [b] (fun y v' w'=>(∃ k,y = Zra.val k ∧ Zra.rel v' k z.1) ∧ v' b = none ∧ ∃ cs,w'.heap[b]? = some (.cells (pre0 ++ cs ++ post0).toArray f (0,0)) ∧ c = z.2.length ∧ Rep.rels (Zc .u64) v' cs z.2) :=
  take_w hv l m n o p g r j (Zmq (Zbk g) j.2 hm)
theorem digit_w {x : World} {m : Zd} (hv : VIn m x) {a off0 e h : Nat} {A : TypeId} {pre0 cs0 post0 : List Value} {u : (List Int)} (a0 : x.heap[a]? = some (.cells (pre0 ++ cs0 ++ post0).toArray A (0,0))) (G : off0 = pre0.length) (a1 : m a = none) (k : e = u.length) (a2 : e ≤ h ∧ h ≤ maxLen) (d : Rep.rels (Zc .u64) m cs0 u) {c1 : List Value} {v : Nat} (g : Rep.rel ZI m c1 v) {z : Int × (List Int)} (H : Zgh u v = some z) : RetL Tryz.prog 178 #[.slice (some ⟨a,off0,none⟩) e h,ZI.val c1] x m [a] (fun y v' w'=>(∃ r0,y = (Zc .u64).val r0 ∧ (Zc .u64).rel v' r0 z.1) ∧ v' a = none ∧ ∃ cs,w'.heap[a]? = some (.cells (pre0 ++ cs ++ post0).toArray A (0,0)) ∧ e = z.2.length ∧ Rep.rels (Zc .u64) v' cs z.2):=by
  obtain ⟨q1,o,p,rfl⟩:=Zca g;refine Zqn (K:=90) (args:=[.slice (some ⟨a,off0,none⟩) (e) h,.slice q1 o p]) hv a0 a1 Tryz.func178 rfl rfl zl fun f S=>?_;unfold Zgh at H;refine sr (mw S rfl fun f S=>oe (sr (mv S rfl fun f S=>ov S rfl (ZP S (Zw g) rfl rfl ZV) fun f S=>mw S rfl fun f S=>oe (sr (mw S rfl fun f S=>oe (Zi fun _ a3=>Zi fun _ a4=>?_))))));obtain ⟨aE,V,H⟩:=Za H;obtain ⟨cg,a5,H⟩:=Za H;obtain ⟨a6,aj,H⟩:=Za H;refine Z8 (fl:=#[true,true,true,true,true,true,true,true,true,true]) Z7 (by kernel_rfl) S ?_;intro ops O F w S;refine rfa O F 0 rfl rfl S (Zs S rfl) fun f S=>rfa O F 1 rfl rfl S (Zs S rfl) fun f S=>?_;have aF:=ZZa d (Zh V).2.1;obtain ⟨ch,aG⟩ : ∃ c,(List.take (Zc .u64).n (List.drop (((((Zl 18446744073709551616 v)).length : Int)).toNat * (Zc .u64).n) cs0)) = c:=⟨_,rfl⟩;rw [aG] at aF;obtain ⟨rfl,ci⟩:=aF;refine rfa O F 2 rfl rfl S (ZH S rfl rfl ZV (Zh V).1 (ltI k (Zh V).2.2.1)) fun f S=>rfa O F 3 rfl rfl S (Zpa S rfl ZFa (Zoh S (j:=0) rfl G (Z0b d k) aG (ltN k (Zh V).2.2.2) 0 [.int .u64 (aE)] rfl zl)) fun f S=>rfa O F 4 rfl rfl S (Zs S rfl) fun f S=>rfa O F 5 rfl rfl S (Zs S rfl) fun f S=>rfa O F 6 rfl rfl S (Zk S rfl rfl (ZEa a5)) fun f S=>?_;obtain ⟨_,r,s,cj,rfl,a7,a8⟩:=Zma g (Zh aj).2.1
  obtain ⟨rfl,ck⟩:=a8;refine rfa O F 7 rfl rfl S (ZH S rfl rfl ZV (Zh aj).1 (ltI (Zw g) (Zh aj).2.2.1)) fun f S=>rfa O F 8 rfl rfl S (Zpa S rfl ZFa (S.view a7)) fun f S=>rfa O F 9 rfl rfl S (Zk S rfl rfl Z4) fun f S=>ZU O F (Zb (a4 _ _ ?_));obtain ⟨a9,ba,bb⟩:=Za H;refine ZR (fun f w=>∃ (W : Int) (I : Zd),W = a9 ∧ Zd.le m I ∧ St 90 ⟨x,[a]⟩ m [(0,.slice (some ⟨a,off0,none⟩) (e) h),(1,.slice (some ⟨r,s,none⟩) o p),(6,.int .u64 (W))] [Loc.box a A (pre0 ++ cs0 ++ post0)] I f w ∧ inR .u64 W) (fun _ aH=>?_) ?_
  · have H:=ba;rcases ZA (decide (aE < a6)) with J | J
    · have H:=Zz H J;refine ZF S rfl J (sr (mw S rfl fun f S=>oe (Zi fun _ bc=>?_)));obtain ⟨X,Y,H⟩:=Za H;obtain ⟨bd,be,H⟩:=Za H;obtain ⟨Z,aa,H⟩:=Za H;obtain ⟨cl,bf,H⟩:=Za H;obtain ⟨ak,al,H⟩:=Za H;obtain ⟨aI,bg,H⟩:=Za H;refine Z8 (fl:=#[true,true,true,true,true,true,true,true,true,true,true,true,true,true,false,true,true,true,false,false]) Z7 (by kernel_rfl) S ?_;intro ops O F w S;refine rfa O F 0 rfl rfl S (Zs S rfl) fun f S=>rfa O F 1 rfl rfl S (Zs S rfl) fun f S=>?_;have aJ:=ZZa d (Zh Y).2.1;obtain ⟨cm,aK⟩ : ∃ c,(List.take (Zc .u64).n (List.drop (((((Zl 18446744073709551616 v)).length : Int)).toNat * (Zc .u64).n) cs0)) = c:=⟨_,rfl⟩;rw [aK] at aJ;obtain ⟨rfl,bh⟩:=aJ;refine rfa O F 2 rfl rfl S (ZH S rfl rfl ZV (Zh Y).1 (ltI k (Zh Y).2.2.1)) fun f S=>rfa O F 3 rfl rfl S (Zpa S rfl ZFa (Zoh S (j:=0) rfl G (Z0b d k) aK (ltN k (Zh Y).2.2.2) 0 [.int .u64 (X)] rfl zl)) fun f S=>rfa O F 4 rfl rfl S (Zs S rfl) fun f S=>rfa O F 5 rfl rfl S (Zs S rfl) fun f S=>rfa O F 6 rfl rfl S (Zk S rfl rfl (ZEa be)) fun f S=>?_;have aL:=ZZa d (Zh aa).2.1;obtain ⟨cn,aM⟩ : ∃ c,(List.take (Zc .u64).n (List.drop ((bd).toNat * (Zc .u64).n) cs0)) = c:=⟨_,rfl⟩
      rw [aM] at aL;obtain ⟨rfl,bi⟩:=aL;refine rfa O F 7 rfl rfl S (ZH S rfl rfl ZV (Zh aa).1 (ltI k (Zh aa).2.2.1)) fun f S=>rfa O F 8 rfl rfl S (Zpa S rfl ZFa (Zoh S (j:=0) rfl G (Z0b d k) aM (ltN k (Zh aa).2.2.2) 0 [.int .u64 (Z)] rfl zl)) fun f S=>rfa O F 9 rfl rfl S (Zs S rfl) fun f S=>rfa O F 10 rfl rfl S (Zs S rfl) fun f S=>rfa O F 11 rfl rfl S (Zk S rfl rfl (ZEa bf)) fun f S=>?_;obtain ⟨co,am,bj⟩:=Z9 g (Zh al).2.1;obtain ⟨rfl,bk⟩:=bj;refine rfa O F 12 rfl rfl S (ZH S rfl rfl ZV (Zh al).1 (ltI (Zw g) (Zh al).2.2.1)) fun f S=>rfa O F 13 rfl rfl S (Zpa S rfl ZFa (S.view am)) fun f S=>go1 O F 14 (nxc [3,8,13,2,7,12,0,1,4,6,9,11,5,10] [] O rfl S rfl (Zp S [.int .u64 (X),.int .u64 (Z),.int .u64 (ak)] Zsl rfl rfl) (Zcn S.vin (show Rep.rel (Zc .u64) _ [.int .u64 (X)] X from (Zx bh)) (show Rep.rel (Zc .u64) _ [.int .u64 (Z)] Z from (Zx bi)) (show Rep.rel (Zc .u64) _ [.int .u64 (ak)] ak from (Zx bk)) bg) ?_);rintro _ aN f w ab ⟨cp,cq,rfl,bm,bn⟩ S;have d:=Z2 ab d;have am:=Atm ab am;obtain ⟨rfl,bo⟩:=bm;obtain ⟨rfl,bp⟩:=bn;refine ⟨Zn,rfa O F 15 rfl rfl S (Zs S rfl) fun f S=>rfa O F 16 rfl rfl S (ZB S rfl rfl) fun f S=>rfa O F 17 rfl rfl S (ZB S rfl rfl) fun f S=>go1 O F 18 (nva [0,1,2,3,4,5,6,7,8,9,10,11,12,13,14,15,16] [17] O rfl rfl S (Zua S rfl) fun f S=>⟨(py S rfl rfl (ZB S rfl rfl) Zn),go1 O F 19 (nva [0,1,2,3,4,5,6,7,8,9,10,11,12,13,14,15,16,17,18] [] O rfl rfl S (Zua S rfl) fun f S=>⟨Zn,ZU O F ?_⟩)⟩)⟩
      have S:=S.fr' (σ':=[(0,.slice (some ⟨a,off0,none⟩) (e) h),(1,.slice (some ⟨r,s,none⟩) o p),(5,.int .i64 ((((Zl 18446744073709551616 v)).length : Int))),(6,.int .u64 (aI.1)),(7,.int .u64 (aI.2))]) rfl;refine Zb (bc _ _ ?_);obtain ⟨bq,br,bs⟩:=Za H;refine ZR (fun f w=>∃ (ac : Int) (an : Zd),ac = bq ∧ Zd.le aN an ∧ St 90 ⟨x,[a]⟩ m [(0,.slice (some ⟨a,off0,none⟩) (e) h),(1,.slice (some ⟨r,s,none⟩) o p),(6,.int .u64 (ac))] [Loc.box a A (pre0 ++ cs0 ++ post0)] an f w ∧ inR .u64 ac) (fun _ aO=>?_) ?_
      · have H:=br;refine wp_block ?_;obtain ⟨cr,bt,aP⟩:=Za H;refine ZBa bt (fun bu f w=>∃ (q : Int) (l : Int) (ao : Zd),(q,l) = bu ∧ Zd.le aN ao ∧ St 90 ⟨x,[a]⟩ m [(0,.slice (some ⟨a,off0,none⟩) (e) h),(1,.slice (some ⟨r,s,none⟩) o p),(5,.int .i64 ((((Zl 18446744073709551616 v)).length : Int))),(6,.int .u64 (q)),(7,.int .u64 (l))] [Loc.box a A (pre0 ++ cs0 ++ post0)] ao f w ∧ inR .u64 q ∧ inR .u64 l) ⟨_,_,_,rfl,(leR _),(S.fr' rfl),bo,bp⟩ ?_;rintro _ f w st ⟨q,l,ao,hq,L,S,aQ,ct⟩ H cu bv aR;subst hq;have d:=Z2 L d;refine wp_block (Zi fun _ bw=>?_);obtain ⟨cv,bx,H⟩:=Za H;obtain ⟨ap,aq,H⟩:=Za H;obtain ⟨B,bz,H⟩:=Za H;refine Zr (mv S rfl fun f S=>mv S rfl fun f S=>mv S rfl fun f S=>ov S rfl (Zk S rfl rfl (ZEa bx)) fun f S=>?_);have g:=Zo (leT ab L) g;obtain ⟨cw,ar,bA⟩:=Z9 g (Zh aq).2.1;obtain ⟨rfl,bB⟩:=bA;refine ov S rfl (ZH S rfl rfl ZV (Zh aq).1 (ltI (Zw g) (Zh aq).2.2.1)) fun f S=>ov S rfl (Zpa S rfl ZFa (S.view ar)) fun f S=>opc S rfl (Zp S [.int .u64 (q),.int .u64 (ap)] Z4j rfl rfl) (Zjk S.vin (show Rep.rel (Zc .u64) _ [.int .u64 (q)] q from (Zx aQ)) (show Rep.rel (Zc .u64) _ [.int .u64 (ap)] ap from (Zx bB)) bz) ?_
        rintro _ bC f w D ⟨cx,cy,rfl,bD,bE⟩ S;have d:=Z2 D d;have ar:=Atm D ar;obtain ⟨rfl,cz⟩:=bD;obtain ⟨rfl,cA⟩:=bE;refine mv S rfl fun f S=>ov S rfl (ZB S rfl rfl) fun f S=>ov S rfl (ZB S rfl rfl) fun f S=>mw S rfl fun f S=>mw S rfl fun f S=>Zq (Zb (bw _ _ (Zi fun _ bF=>Zi fun _ bG=>?_)));obtain ⟨bH,bI,bJ⟩:=Za H;refine ZR (fun f w=>∃ (ad : Bool) (au : Zd),ad = bH ∧ Zd.le bC au ∧ St 90 ⟨x,[a]⟩ m [(0,.slice (some ⟨a,off0,none⟩) (e) h),(1,.slice (some ⟨r,s,none⟩) o p),(5,.int .i64 ((((Zl 18446744073709551616 v)).length : Int))),(6,.int .u64 (q)),(7,.int .u64 (l)),(67,.bool (ad))] [Loc.box a A (pre0 ++ cs0 ++ post0)] au f w) (fun _ av=>?_) ?_
        · have H:=bI;rcases ZA (decide (B.1 < l)) with E | E
          · have H:=Zz H E;refine Zr (mv S rfl fun f S=>mv S rfl fun f S=>ov S rfl (Zk S rfl rfl Z4) fun f S=>?_);have S:=S.bool (t:=53) rfl E;refine mv S rfl fun f S=>opn S rfl rfl rfl rfl fun f S=>opn S rfl rfl rfl rfl fun f S=>opn S rfl rfl rfl rfl fun f S=>opn S rfl rfl rfl rfl fun f S=>ZOd S (Zae S rfl rfl rfl zl) rfl zl fun f S=>ZOd S (Zae S rfl rfl rfl zl) rfl zl fun f S=>ZOd S (Zae S rfl rfl rfl zl) rfl zl fun f S=>ZOd S (Zae S rfl rfl rfl zl) rfl zl fun f S=>ZOd S (Zae S rfl rfl rfl zl) rfl zl fun f S=>ZOd S (Zae S rfl rfl rfl zl) rfl zl fun f S=>ZOd S (Zae S rfl rfl rfl zl) rfl zl fun f S=>opn S rfl rfl rfl rfl fun f S=>ov S rfl (ZJ S (b:=true) rfl rfl) fun f S=>?_;refine Zq ?_;have S:=S.fr' (σ':=[(0,.slice (some ⟨a,off0,none⟩) (e) h),(1,.slice (some ⟨r,s,none⟩) o p),(5,.int .i64 ((((Zl 18446744073709551616 v)).length : Int))),(6,.int .u64 (q)),(7,.int .u64 (l)),(55,undef),(56,undef),(57,undef),(58,undef),(59,undef),(60,undef),(61,undef),(62,undef),(63,undef),(64,undef),(65,undef),(66,undef),(67,.bool (true))]) rfl;obtain rfl:=Zg H;refine Zb (av _ _ ⟨_,_,rfl,(leR _),(S.fr' rfl)⟩)
          have H:=Zy H E;rcases ZA (B.1 == l) with M | M
          · have H:=Zz H M;obtain ⟨aw,bK,H⟩:=Za H;obtain ⟨N,ae,H⟩:=Za H;refine Zr (mv S rfl fun f S=>mv S rfl fun f S=>ov S rfl (Zk S rfl rfl Z4) fun f S=>?_);have S:=S.bool (t:=53) rfl E;refine mv S rfl fun f S=>opy S rfl rfl rfl rfl (Zs S rfl) fun f S=>opy S rfl rfl rfl rfl (Zs S rfl) fun f S=>opy S rfl rfl rfl rfl (Zk S rfl rfl Zwa) fun f S=>?_;have S:=S.bool (t:=57) rfl M;refine opy S rfl rfl rfl rfl (Zs S rfl) fun f S=>opy S rfl rfl rfl rfl (Zs S rfl) fun f S=>opy S rfl rfl rfl rfl (Zs S rfl) fun f S=>opy S rfl rfl rfl rfl (Zs S rfl) fun f S=>opy S rfl rfl rfl rfl (Zk S rfl rfl (ZEa bK)) fun f S=>?_;have aS:=ZZa d (Zh ae).2.1;obtain ⟨cC,aT⟩ : ∃ c,(List.take (Zc .u64).n (List.drop ((aw).toNat * (Zc .u64).n) cs0)) = c:=⟨_,rfl⟩;rw [aT] at aS;obtain ⟨rfl,cD⟩:=aS;refine opy S rfl rfl rfl rfl (ZH S rfl rfl ZV (Zh ae).1 (ltI k (Zh ae).2.2.1)) fun f S=>opy S rfl rfl rfl rfl (Zpa S rfl ZFa (Zoh S (j:=0) rfl G (Z0b d k) aT (ltN k (Zh ae).2.2.2) 0 [.int .u64 (N)] rfl zl)) fun f S=>opy S rfl rfl rfl rfl (Zk S rfl rfl Zrb) fun f S=>opy S rfl rfl rfl rfl (ZJ S (b:=true) rfl rfl) fun f S=>ov S rfl (ZJ S (b:=false) rfl rfl) fun f S=>Zq ?_;have S:=S.fr' (σ':=[(0,.slice (some ⟨a,off0,none⟩) (e) h),(1,.slice (some ⟨r,s,none⟩) o p),(5,.int .i64 ((((Zl 18446744073709551616 v)).length : Int))),(6,.int .u64 (q)),(7,.int .u64 (l)),(55,.int .u64 (B.1)),(56,.int .u64 (l)),(57,.bool (true)),(58,.bool (true)),(59,.int .u64 (B.2)),(60,.slice (some ⟨a,off0,none⟩) (e) h),(61,.int .i64 ((((Zl 18446744073709551616 v)).length : Int))),(62,.int .i64 (aw)),(63,.pointer (some ⟨a,off0 + (aw).toNat * 1,none⟩)),(64,.int .u64 (N)),(65,.bool (decide (B.2 ≤ N))),(66,.bool (decide (B.2 ≤ N))),(67,.bool (decide (B.2 ≤ N)))]) rfl
            obtain rfl:=Zg H;refine Zb (av _ _ ⟨_,_,rfl,(leR _),(S.fr' rfl)⟩)
          have H:=Zy H M;refine Zr (mv S rfl fun f S=>mv S rfl fun f S=>ov S rfl (Zk S rfl rfl Z4) fun f S=>?_);have S:=S.bool (t:=53) rfl E;refine mv S rfl fun f S=>opy S rfl rfl rfl rfl (Zs S rfl) fun f S=>opy S rfl rfl rfl rfl (Zs S rfl) fun f S=>opy S rfl rfl rfl rfl (Zk S rfl rfl Zwa) fun f S=>?_;have S:=S.bool (t:=57) rfl M;refine opy S rfl rfl rfl rfl (Zs S rfl) fun f S=>opn S rfl rfl rfl rfl fun f S=>opn S rfl rfl rfl rfl fun f S=>opn S rfl rfl rfl rfl fun f S=>opn S rfl rfl rfl rfl fun f S=>opn S rfl rfl rfl rfl fun f S=>opn S rfl rfl rfl rfl fun f S=>opn S rfl rfl rfl rfl fun f S=>opy S rfl rfl rfl rfl (ZJ S (b:=false) rfl rfl) fun f S=>ov S rfl (ZJ S (b:=false) rfl rfl) fun f S=>Zq ?_;have S:=S.fr' (σ':=[(0,.slice (some ⟨a,off0,none⟩) (e) h),(1,.slice (some ⟨r,s,none⟩) o p),(5,.int .i64 ((((Zl 18446744073709551616 v)).length : Int))),(6,.int .u64 (q)),(7,.int .u64 (l)),(55,.int .u64 (B.1)),(56,.int .u64 (l)),(57,.bool (false)),(58,.bool (false)),(59,undef),(60,undef),(61,undef),(62,undef),(63,undef),(64,undef),(65,undef),(66,.bool (false)),(67,.bool (false))]) rfl;obtain rfl:=Zg H;refine Zb (av _ _ ⟨_,_,rfl,(leR _),(S.fr' rfl)⟩)
        rintro f w ⟨ad,au,hq,P,S⟩;subst hq;have H:=bJ;have d:=Z2 P d;refine Zb (bG _ _ ?_);rcases ZA (ad) with Q | Q
        · have H:=Zz H Q;refine ZF S rfl Q (wp_exit (ZX (ZVi rfl ?_)));obtain rfl:=Zg H;have hq:=aR _ rfl;subst hq;have H:=aP;refine ZX (Zxa ?_);obtain rfl:=Zg H;refine Zb (aO _ _ ⟨_,_,rfl,(leT (leT (leT (leR _) L) D) P),(S.fr' rfl),aQ⟩)
        have H:=Zy H Q;refine ZE S rfl Q (wp_skip (Zb (bF _ _ (sr (mv S rfl fun f S=>ov S rfl (Zk S rfl rfl Z4d) fun f S=>mw S rfl fun f S=>oe (sr (mw S rfl fun f S=>oe (Zi fun _ bL=>?_))))))));obtain ⟨cE,bM,H⟩:=Za H;obtain ⟨bN,ax,H⟩:=Za H;obtain ⟨bO,aU,H⟩:=Za H;refine Zr (mv S rfl fun f S=>mv S rfl fun f S=>mv S rfl fun f S=>ov S rfl (Zk S rfl rfl (ZEa bM)) fun f S=>?_);have g:=Zo (leT D P) g;obtain ⟨cF,bP,bQ⟩:=Z9 g (Zh ax).2.1;obtain ⟨rfl,cH⟩:=bQ;refine ov S rfl (ZH S rfl rfl ZV (Zh ax).1 (ltI (Zw g) (Zh ax).2.2.1)) fun f S=>ov S rfl (Zpa S rfl ZFa (S.view bP)) fun f S=>ov S rfl (Ztc S [.int .u64 (l),.int .u64 (bN),.int .u64 ((0 : Int))] (Zeh Z7g aU) rfl rfl) fun f S=>mv S rfl fun f S=>ov S rfl (ZB S rfl rfl) fun f S=>ov S rfl (ZB S rfl rfl) fun f S=>mw S rfl fun f S=>mw S rfl fun f S=>Zq (Zb (bL _ _ (sr (mv S rfl fun f S=>ov S rfl (Zk S rfl rfl ZCa) fun f S=>oe ?_))));rcases ZA (decide ((0 : Int) < bO.2)) with R | R
        · have H:=Zz H R;refine ZF S rfl R (wp_exit (ZVi rfl ?_));obtain rfl:=Zg H;have hq:=aR _ rfl;subst hq;have H:=aP;refine ZX (Zxa ?_);obtain rfl:=Zg H;refine Zb (aO _ _ ⟨_,_,rfl,(leT (leT (leT (leR _) L) D) P),(S.fr' rfl),(Zza _ _)⟩)
        have H:=Zy H R;refine ZE S rfl R (wp_skip (Zta ?_));obtain rfl:=Zg H;refine bv _ rfl _ _ ⟨_,_,_,rfl,(leT (leT L D) P),(S.fr' rfl),(Zza _ _),(ZPj aU)⟩
      rintro f w ⟨ac,an,hq,aV,S,bR⟩;subst hq;have H:=bs;have d:=Z2 aV d;obtain rfl:=Zg H;refine Zb (aH _ _ ⟨_,_,rfl,(leT (leT (leR _) ab) aV),(S.fr' rfl),bR⟩)
    have H:=Zy H J;refine ZE S rfl J (wp_skip ?_);obtain rfl:=Zg H;refine Zb (aH _ _ ⟨_,_,rfl,(leR _),(S.fr' rfl),(by decide)⟩)
  rintro f w ⟨W,I,hq,aW,S,bS⟩;subst hq;have H:=bb;have d:=Z2 aW d;refine Zb (a3 _ _ (Zi fun _ bT=>?_));obtain ⟨bU,bV,bW⟩:=Za H;refine ZR (fun f w=>∃ (af : (List Int)) (T : Int) (ay : List Value) (ag : Zd),(af,T) = bU ∧ Zd.le I ag ∧ St 90 ⟨x,[a]⟩ m [(6,.int .u64 (T))] [Loc.box a A (pre0 ++ ay ++ post0)] ag f w ∧ Rep.rels (Zc .u64) ag ay af ∧ e = af.length ∧ inR .u64 T) (fun _ bX=>?_) ?_
  · have H:=bV;refine wp_block ?_;obtain ⟨cI,bY,bZ⟩:=Za H;refine ZBa bY (fun b1 f w=>∃ (ah : (List Int)) (C : Int) (az : List Value) (ai : Zd),(ah,C) = b1 ∧ Zd.le I ai ∧ St 90 ⟨x,[a]⟩ m [(0,.slice (some ⟨a,off0,none⟩) (e) h),(1,.slice (some ⟨r,s,none⟩) o p),(6,.int .u64 (C))] [Loc.box a A (pre0 ++ az ++ post0)] ai f w ∧ Rep.rels (Zc .u64) ai az ah ∧ e = ah.length ∧ inR .u64 C) ⟨_,_,cs0,_,rfl,(leR _),(S.fr' rfl),d,k,bS⟩ ?_;rintro _ f w st ⟨ah,C,az,ai,hq,aA,S,aB,b2,aX⟩ H cJ b3 b4;subst hq;refine Zi fun _ b5=>Zi fun _ b6=>?_;obtain ⟨b7,b8,H⟩:=Za H;refine Zr (mv S rfl fun f S=>mv S rfl fun f S=>mv S rfl fun f S=>?_);have g:=Zo (leT aW aA) g;refine Zpn S wn rfl zl (Zp S [.slice (some ⟨a,off0,none⟩) (e) h,.slice (some ⟨r,s,none⟩) o p,.int .u64 (C)] k_en197 rfl rfl) (i:=0) rfl rfl (take_c S.vin (S.boxAt (j:=0) rfl).1 G (S.boxAt (j:=0) rfl).2 b2 a2 aB g (show Rep.rel (Zc .u64) _ [.int .u64 (C)] C from (Zx aX)) b8) ?_;rintro _ cK f w aC ⟨⟨cL,rfl,b9⟩,ca,aD,cb,aY,aZ⟩ hSf;have aB:=Z2 aC aB;have S:=hSf (Loc.box a A (pre0 ++ aD ++ post0)) rfl cb ca;obtain rfl:=b9;refine ov S rfl (Zhd S rfl) fun f S=>Zq (Zb (b6 _ _ ?_));rcases ZA (!(b7.1)) with U | U
    · have H:=Zz H U;refine ZF S rfl U (wp_skip (Zb (b5 _ _ (wp_block (Zr (mv S rfl fun f S=>ov S rfl (Zk S rfl rfl Z4d) fun f S=>mw S rfl fun f S=>Zq (Zta ?_)))))));obtain rfl:=Zg H;refine b3 _ rfl _ _ ⟨_,_,aD,_,rfl,(leT aA aC),(S.fr' rfl),aZ,aY,(Zza _ _)⟩
    have H:=Zy H U;refine ZE S rfl U (wp_exit (ZX ?_));obtain rfl:=Zg H;have hq:=b4 _ rfl;subst hq;have H:=bZ;refine ZX (Zxa ?_);obtain rfl:=Zg H;refine Zb (bX _ _ ⟨_,_,aD,_,rfl,(leT (leT (leR _) aA) aC),(S.fr' rfl),aZ,aY,aX⟩)
  rintro f w ⟨af,T,ay,ag,hq,cM,S,cc,cd,ce⟩;subst hq;have H:=bW;refine Zb (bT _ _ (sr (mv S rfl fun f S=>mw S rfl fun f S=>oe (wp_ret ?_))));obtain rfl:=Zg H;refine Z9k S (ZO rfl (ZG S rfl)) ⟨⟨[.int .u64 (T)],rfl,(Zx ce)⟩,(S.boxAt (j:=0) rfl).2,_,(S.boxAt (j:=0) rfl).1,cd,cc⟩
theorem digit_c {d : World} {b : Zd} (hv : VIn b d) {a off0 c e : Nat} {f : TypeId} {pre0 cs0 post0 : List Value} {u : (List Int)} (j : d.heap[a]? = some (.cells (pre0 ++ cs0 ++ post0).toArray f (0,0))) (k : off0 = pre0.length) (l : b a = none) (m : c = u.length) (n : c ≤ e ∧ e ≤ maxLen) (g : Rep.rels (Zc .u64) b cs0 u) {h : List Value} {v : Nat} (o : Rep.rel ZI b h v) {z : Int × (List Int)} (hm : Zmg u v = some z) :
    RetL Tryz.prog 178 #[Value.slice (some ⟨a,off0,none⟩) c e,ZI.val h] d b [a] (fun y v' w'=>(∃ i,y = (Zc .u64).val i ∧ (Zc .u64).rel v' i z.1) ∧ v' a = none ∧ ∃ cs,w'.heap[a]? = some (.cells (pre0 ++ cs ++ post0).toArray f (0,0)) ∧ c = z.2.length ∧ Rep.rels (Zc .u64) v' cs z.2) :=
  digit_w hv j k l m n g o (Zmo (Zbk g) hm)
end Go.Eng
