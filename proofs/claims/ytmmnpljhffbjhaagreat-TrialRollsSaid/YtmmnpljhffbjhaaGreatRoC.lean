/- Lemmas towards the statement: the engine of the walks, the functions' models, laws and walks, part 3. Conditions: as each states. -/
import Derived.Lib.AppendStr
import Derived.Lib.Builder
import Derived.Lib.UnsafeStr
import Derived.Test.YtmmnpljhffbjhaaGreatProg
import Derived.Test.YtmmnpljhffbjhaaGreatRoB
set_option linter.all false
set_option maxRecDepth 100000
namespace Go.Eng
noncomputable def ZHg (a : Nat) (b : Nat) : Option (Nat × Nat) :=
 bnd (Zid a b) fun t =>
 ifb (decide (t < (0 : Int)))
 (some (((0 : Nat), a)))
 (ifb (((((Zi 4294967296 b)).length : Int)) == ((1 : Int)))
 (bnd (idx ((Zi 4294967296 b)) ((0 : Int))) fun u =>
 bnd (ZGe a u) fun l =>
 bnd (Zvd (IntKind.u64.wrap l.2)) fun v =>
 some ((l.1, v)))
 (bnd (chk .i64 (((32 : Int)) * ((((Zi 4294967296 b)).length : Int)))) fun w =>
 bnd (ZWf b) fun x =>
 bnd (chk .i64 (w - x)) fun i =>
 bnd (Z3d b i) fun c =>
 bnd (Z3d a i) fun y =>
 bnd (chk .i64 (((((Zi 4294967296 a)).length : Int)) - ((((Zi 4294967296 c)).length : Int)))) fun z =>
 bnd (chk .i64 (z + ((2 : Int)))) fun g =>
 bnd (mk 4 g g) fun ae =>
 bnd (chk .i64 (((((List.replicate (g).toNat ((0 : Int)))).length : Int)) - ((1 : Int)))) fun A =>
 bnd (bnd (Zga (fun s : Nat × (List Int) × Int => match s with
 | (e, h, d) =>
 (ifb (decide ((0 : Int) ≤ d))
 (bnd (bnd (ifb (decide (d < (((Zi 4294967296 e)).length : Int)))
 (bnd (Zxb ((Zi 4294967296 e)) d ((((Zi 4294967296 e)).length : Int))) fun B =>
 some B)
 (some (([] : (List Int)))))
 (fun (f : (List Int)) =>
 (bnd (ZDc f) fun C =>
 bnd (Zid C c) fun D =>
 ifb (decide (D < (0 : Int)))
 (some ((e, h)))
 (bnd (chk .i64 (((((Zi 4294967296 c)).length : Int)) - ((1 : Int)))) fun E =>
 bnd (idx f E) fun m =>
 bnd (ifb (decide ((((Zi 4294967296 c)).length : Int) < (f.length : Int)))
 (bnd (idx f ((((Zi 4294967296 c)).length : Int))) fun F =>
 bnd (ZLb .u64 (IntKind.u64.wrap F) ((32 : Int))) fun G =>
 some (orI .u64 (IntKind.u64.wrap m) G))
 (some (IntKind.u64.wrap m)))
 (fun (H : Int) =>
 (bnd (chk .i64 (((((Zi 4294967296 c)).length : Int)) - ((1 : Int)))) fun I =>
 bnd (idx ((Zi 4294967296 c)) I) fun J =>
 bnd (quo .u64 H (IntKind.u64.wrap J)) fun n =>
 bnd (ifb (decide ((4294967295 : Int) < n))
 (some ((4294967295 : Int)))
 (some n))
 (fun (o : Int) =>
 (bnd (Zvd o) fun K =>
 bnd (Z8a c K) fun L =>
 bnd (bnd (Zga (fun s : Int × Nat => match s with
 | (q, j) =>
 (bnd (ZDc f) fun M =>
 bnd (Zid j M) fun N =>
 ifb (decide ((0 : Int) < N))
 (bnd (Zrc j c) fun O =>
 some (.inl ((IntKind.u64.wrap (q - ((1 : Int))), O))))
 (some (.inr ((q, j)))))) Zqa ((o, L)))
 (fun (p : Int × Nat) => match p with
 | (P, Q) =>
 (some ((P, Q)))))
 (fun (p : Int × Nat) => match p with
 | (R, S) =>
 (bnd (idx h d) fun af =>
 bnd (Zxb ((Zi 4294967296 e)) ((0 : Int)) d) fun k =>
 bnd (Znb 4 (([] : (List Int)) ++ k)) fun ag =>
 bnd (ZDc f) fun T =>
 bnd (Zrc T S) fun r =>
 bnd (Znb 4 ((([] : (List Int)) ++ k) ++ ((Zi 4294967296 r)))) fun ah =>
 bnd (ZPb (((([] : (List Int)) ++ k) ++ ((Zi 4294967296 r))))) fun U =>
 some ((U, (h.set (d).toNat (IntKind.u32.wrap R))))))))))))))
 (fun (p : Nat × (List Int)) => match p with
 | (V, W) =>
 (bnd (chk .i64 (d - ((1 : Int)))) fun X =>
 some (.inl ((V, W, X))))))
 (some (.inr ((e, h)))))) Zqa ((y, (List.replicate (g).toNat ((0 : Int))), A)))
 (fun (p : Nat × (List Int)) => match p with
 | (Y, Z) =>
 (some ((Y, Z)))))
 (fun (p : Nat × (List Int)) => match p with
 | (aa, ab) =>
 (bnd (ZPb ab) fun ac =>
 bnd (Zdg aa i) fun ad =>
 some ((ac, ad))))))
theorem ZCk {B n : Nat} (hB : 2 ≤ B) (w : Nat) : (Zi B n).drop w = Zi B (n / B ^ w) := by
  induction w generalizing n with
  | zero => rw [List.drop_zero, Nat.pow_zero, Nat.div_one]
  | succ w ih =>
    by_cases h : n = 0
    · subst h; rw [ZUa, Nat.zero_div, ZUa]; rfl
    · rw [ZIc hB h, List.drop_succ_cons, ih, Nat.div_div_eq_div_mul, Nat.pow_succ, Nat.mul_comm B]
theorem Zlq {B n : Nat} (hB : 2 ≤ B) (w : Nat) (h : w ≤ (Zi B n).length) : val B ((Zi B n).take w) = n % B ^ w := by
  have h1 := Zsd B (Zi B n) w h; rw [Z2a hB, ZZl hB] at h1; have h2 := Nat.mod_add_div n (B ^ w); omega
theorem ZPj {B n i : Nat} (hB : 2 ≤ B) (h : i < (Zi B n).length) : idx (Zi B n) (i : Int) = some ((n / B ^ i % B : Nat) : Int) := by
  rw [Zma h]; congr 1; have h1 := List.drop_eq_getElem_cons h; rw [ZCk hB] at h1; have h2 : n / B ^ i ≠ 0 := by
    intro h2; rw [h2, ZUa] at h1
    cases h1
  rw [ZIc hB h2] at h1; exact (List.cons.inj h1).1.symm
theorem Z8n {B n L : Nat} (hB : 2 ≤ B) (h1 : B ^ L ≤ n) (h2 : n < B ^ (L + 1)) : (Zi B n).length = L + 1 := by
  have h3 := Z8e hB h2; have h4 := ZGc hB n; have h5 : ¬ (Zi B n).length ≤ L := by
    intro h5; have := Nat.pow_le_pow_right (n := B) (by omega) h5; omega
  omega
theorem Zul {n m : Nat} : decide (Z6a n m < 0) = decide (n < m) := by
  unfold Z6a; by_cases h : n < m
  · rw [if_pos h, decide_eq_true h]; rfl
  · rw [if_neg h, decide_eq_false h]; split <;> rfl
theorem Zel {n m : Nat} : decide (0 < Z6a n m) = decide (m < n) := by
  unfold Z6a; by_cases h : n < m
  · rw [if_pos h, decide_eq_false (show ¬ m < n by omega)]; rfl
  · rw [if_neg h]; by_cases h2 : m < n
    · rw [if_pos h2, decide_eq_true h2]; rfl
    · rw [if_neg h2, decide_eq_false h2]; rfl
theorem Zxh {n k : Nat} (h : n < 4294967296 ^ k) : (Zi 4294967296 n).length ≤ k := Z8e (by decide) h
theorem quo_end {a b q R rest : Nat} (hb : 0 < b) (hR : 0 < R) (h : rest < b * R) (e : a * R = rest + b * R * q) : q = a / b ∧ rest / R = a % b := by
  have h1 : a * R / (b * R) = q := by rw [e, Nat.add_mul_div_left _ _ (Nat.mul_pos hb hR), Nat.div_eq_of_lt h, Nat.zero_add]
  rw [Nat.mul_div_mul_right _ _ hR] at h1; have h2 : a * R % (b * R) = rest := by rw [e, Nat.add_mul_mod_self_left, Nat.mod_eq_of_lt h]
  rw [Nat.mul_mod_mul_right] at h2; exact ⟨h1.symm, by rw [← h2, Nat.mul_div_cancel _ hR]⟩
theorem Zen {a b : Nat} (ha : Z5a a) (hb : Z5a b) (hb0 : b ≠ 0) : ZHg a b = some (a / b, a % b) := by
  unfold ZHg Zid; rw [Ze, Zul]; by_cases hab : a < b
  · rw [decide_eq_true hab, ZM, Nat.div_eq_of_lt hab, Nat.mod_eq_of_lt hab]
  rw [decide_eq_false hab, ZK]; unfold Z5a at ha hb; have hLpos := List.length_pos_iff.2 ((ZKc (n := b) (B := 4294967296) (by decide)).2 hb0); by_cases hL1 : (Zi 4294967296 b).length = 1
  · rw [hL1]; have hb1 : b < 4294967296 := by
      have := ZGc (B := 4294967296) (by decide) b; rw [hL1] at this; simpa using this
    rw [show (((1 : Nat) : Int) == 1) = true from rfl, ZM, ZCj (by decide) hb0 hb1, Ze]; unfold ZGe Zvd; rw [if_pos ⟨by unfold ZJa; omega, by omega⟩, Ze]; simp only [Int.toNat_natCast]; have hm := Nat.mod_lt a (Nat.pos_of_ne_zero hb0); rw [ZBb (by omega), Int.toNat_natCast]; rfl
  have e1 : (((Zi 4294967296 b).length : Int) == 1) = false := beq_false_of_ne (by omega); rw [e1, ZK]; obtain ⟨l, hl⟩ : ∃ l, (Zi 4294967296 b).length = l + 1 := ⟨(Zi 4294967296 b).length - 1, by omega⟩; have hbge : 4294967296 ^ l ≤ b := by have := Zhg (B := 4294967296) (by decide) hb0; rw [hl] at this; simpa using this
  have hblt : b < 4294967296 ^ (l + 1) := by have := ZGc (B := 4294967296) (by decide) b; rwa [hl] at this
  have hp : ∀ k, (4294967296 : Nat) ^ k = 2 ^ (32 * k) := fun k => by rw [Nat.pow_mul]
  obtain ⟨c, hc⟩ := Zsf hb0; obtain ⟨hc1, hc2⟩ := (Zte hb0).1 hc; have hcl : 32 * l ≤ c := by
    have h1 : 2 ^ (32 * l) < 2 ^ (c + 1) := by rw [← hp]; omega
    have := (Nat.pow_lt_pow_iff_right (by omega : 1 < 2)).1 h1; omega
  have hcu : c + 1 ≤ 32 * (l + 1) := by
    have h1 : 2 ^ c < 2 ^ (32 * (l + 1)) := by rw [← hp]; omega
    have := (Nat.pow_lt_pow_iff_right (by omega : 1 < 2)).1 h1; omega
  obtain ⟨up, hup⟩ : ∃ up, up + (c + 1) = 32 * (l + 1) := ⟨32 * (l + 1) - (c + 1), by omega⟩; have hup31 : up ≤ 31 := by omega
  have hR : 0 < 2 ^ up := Nat.pow_pos (by omega); have hR31 : 2 ^ up ≤ 2147483648 := Nat.le_trans (Nat.pow_le_pow_right (by omega) hup31) (by decide); have c1 : chk .i64 (32 * ((l + 1 : Nat) : Int)) = some ((32 * (l + 1) : Nat) : Int) := by rw [show (32 * ((l + 1 : Nat) : Int)) = ((32 * (l + 1) : Nat) : Int) by omega, Zcb (by omega)]
  have c2 : ZWf b = some (((c + 1 : Nat)) : Int) := by unfold ZWf; rw [if_pos (by unfold ZJa; omega), hc]
  have c3 : chk .i64 (((32 * (l + 1) : Nat) : Int) - ((c + 1 : Nat) : Int)) = some (up : Int) := by rw [show ((32 * (l + 1) : Nat) : Int) - ((c + 1 : Nat) : Int) = (up : Int) by omega, Zcb (by omega)]
  have c4 : Z3d b (up : Int) = some (b * 2 ^ up) := by unfold Z3d; rw [if_pos ⟨by unfold ZJa; omega, by omega, by omega⟩, Int.toNat_natCast]
  have c5 : Z3d a (up : Int) = some (a * 2 ^ up) := by unfold Z3d; rw [if_pos ⟨by unfold ZJa; omega, by omega, by omega⟩, Int.toNat_natCast]
  rw [hl, c1, Ze, c2, Ze, c3, Ze, c4, Ze, c5, Ze]; have hv1 : 2 ^ (32 * l + 31) ≤ b * 2 ^ up := by
    have h1 := Nat.mul_le_mul_right (2 ^ up) hc1; rw [← Nat.pow_add] at h1; have h2 : c + up = 32 * l + 31 := by omega
    rw [h2] at h1; exact h1
  have hv2 : b * 2 ^ up < 4294967296 ^ (l + 1) := by
    have h1 := Nat.mul_lt_mul_of_pos_right hc2 hR; rw [← Nat.pow_add] at h1; have h2 : c + 1 + up = 32 * (l + 1) := by omega
    rw [h2, ← hp] at h1; exact h1
  have hvge : 4294967296 ^ l * 2147483648 ≤ b * 2 ^ up := by
    rw [hp, show (2147483648 : Nat) = 2 ^ 31 from rfl, ← Nat.pow_add]; exact hv1
  have hdm : ∀ n q : Nat, q ≠ 0 → n = q * (n / q) + n % q ∧ n % q < q := fun n q h => ⟨(Nat.div_add_mod n q).symm, Nat.mod_lt _ (by omega)⟩; obtain ⟨v, hv⟩ : ∃ v, v = b * 2 ^ up := ⟨_, rfl⟩; rw [← hv] at hv1 hv2 hvge ⊢; have hBl : 0 < 4294967296 ^ l := Nat.pow_pos (by omega); have hlv : (Zi 4294967296 v).length = l + 1 := Z8n (by decide) (by omega) hv2; have hv0 : 0 < v := by omega
  obtain ⟨M, hM⟩ : ∃ M, M = (Zi 4294967296 a).length := ⟨_, rfl⟩; have hML : l + 1 ≤ M := by rw [hM, ← hl]; exact Zad (by decide) (by omega)
  have haM : a < 4294967296 ^ M := by rw [hM]; exact ZGc (by decide) a
  rw [hlv, ← hM]; rw [← hM] at ha; have c6 : chk .i64 ((M : Int) - ((l + 1 : Nat) : Int)) = some ((M - (l + 1) : Nat) : Int) := by rw [show (M : Int) - ((l + 1 : Nat) : Int) = ((M - (l + 1) : Nat) : Int) by omega, Zcb (by omega)]
  obtain ⟨K, hK⟩ : ∃ K, K + (l + 1) = M + 2 := ⟨M - (l + 1) + 2, by omega⟩; have c7 : chk .i64 (((M - (l + 1) : Nat) : Int) + 2) = some (K : Int) := by rw [show ((M - (l + 1) : Nat) : Int) + 2 = (K : Int) by omega, Zcb (by omega)]
  obtain ⟨u, hu⟩ := Zgd (b := 4) (l := (K : Int)) (c := (K : Int)) (by omega) (by omega) (by omega) (by omega); rw [c6, Ze, c7, Ze, hu, Ze, Int.toNat_natCast, List.length_replicate, ZFa (by omega) (by omega), Ze, ZMa]; obtain ⟨ra, hra⟩ : ∃ ra, ra = a * 2 ^ up := ⟨_, rfl⟩; rw [← hra]; have hraM : ra < 4294967296 ^ (M + 1) := by
    rw [hra, Nat.pow_succ]; exact Nat.mul_lt_mul'' haM (by omega)
  have hra0 : ra < v * 4294967296 ^ K := by
    have h1 : 4294967296 ^ l * 2147483648 * 4294967296 ^ K ≤ v * 4294967296 ^ K := Nat.mul_le_mul_right _ hvge; have h2 : 4294967296 ^ l * 2147483648 * 4294967296 ^ K = 4294967296 ^ (M + 1) * 2147483648 := by
      rw [Nat.mul_right_comm, ← Nat.pow_add, show l + K = M + 1 by omega]
    omega
  refine Z4a (fun s : Nat × (List Int) × Int => ∃ k : Nat, s.2.2 = (k : Int) - 1 ∧ k ≤ K ∧ s.2.1.length = K ∧ Dig 4294967296 s.2.1 ∧ (∀ i (h : i < s.2.1.length), i < k → s.2.1[i] = 0) ∧
      s.1 < v * 4294967296 ^ k ∧ s.1 ≤ ra ∧ ra = s.1 + v * (4294967296 ^ k * val 4294967296 (s.2.1.drop k))) (fun s => (s.2.2 + 1).toNat)
    (fun r : Nat × List Int => r.1 < v ∧ r.1 ≤ ra ∧ ra = r.1 + v * val 4294967296 r.2) ⟨K, rfl, by omega, by simp, Dig.replicate _ (by omega), by intro i h _; simp, hra0, Nat.le_refl _, by simp [List.drop_eq_nil_of_le, val]⟩ (ZNa (by simp; omega)) ?_ ?_
  · rintro ⟨rest, out, j⟩ ⟨k, hj, hk, ho, hd, hz, hlt, hle, he⟩; simp only at hj ho hd hz hlt hle he ⊢; subst hj; by_cases hk0 : k = 0
    · right; subst hk0; rw [show decide ((0 : Int) ≤ ((0 : Nat) : Int) - 1) = false from rfl, ZK]; refine ⟨_, rfl, by simpa using hlt, hle, by simpa using he⟩
    left; obtain ⟨j, rfl⟩ : ∃ j, k = j + 1 := ⟨k - 1, by omega⟩; have ej : ((j + 1 : Nat) : Int) - 1 = (j : Int) := by omega
    rw [ej, decide_eq_true (show (0 : Int) ≤ (j : Int) by omega), ZM]; have hjo : j < out.length := by omega
    have cA : ifb (decide ((j : Int) < ((Zi 4294967296 rest).length : Int))) (bnd (Zxb (Zi 4294967296 rest) (j : Int) ((Zi 4294967296 rest).length : Int)) fun y654 => some y654) (some ([] : List Int)) = some (Zi 4294967296 (rest / 4294967296 ^ j)) := by
      rw [← ZCk (by decide)]; by_cases h : j < (Zi 4294967296 rest).length
      · rw [decide_eq_true (by omega), ZM]; have : Zxb (Zi 4294967296 rest) (j : Int) ((Zi 4294967296 rest).length : Int) = some ((Zi 4294967296 rest).drop j) := by
          unfold Zxb; rw [if_pos ⟨by omega, by omega, by omega⟩]; simp
        rw [this, Ze]
      · rw [decide_eq_false (by omega), ZK, List.drop_eq_nil_of_le (by omega)]
    rw [cA, Ze, ZFl, Ze, Ze, Zul]; obtain ⟨p, hpp⟩ : ∃ p, p = rest / 4294967296 ^ j := ⟨_, rfl⟩; rw [← hpp]; have hBj : 0 < 4294967296 ^ j := Nat.pow_pos (by omega); have hrp := Nat.div_add_mod rest (4294967296 ^ j); have hrm := Nat.mod_lt rest hBj; rw [← hpp] at hrp; have hpv : p < v * 4294967296 := by
      rw [hpp, Nat.div_lt_iff_lt_mul hBj]; rw [Nat.pow_succ] at hlt; rw [Nat.mul_assoc, Nat.mul_comm 4294967296]; exact hlt
    have cz : out[j] = 0 := hz j hjo (by omega); have hdrop : val 4294967296 (out.drop j) = 4294967296 * val 4294967296 (out.drop (j + 1)) := by rw [Zlc hjo, cz]; simp
    have cend : chk .i64 ((j : Int) - 1) = some ((j : Int) - 1) := ZFa (by omega) (by omega); by_cases hpl : p < v
    · rw [decide_eq_true hpl, ZM, Ze]; simp only; rw [cend, Ze]; refine ⟨_, rfl, ⟨j, rfl, by omega, ho, hd, fun i h hi => hz i h (by omega), ?_, hle, ?_⟩, by simp⟩
      · have := Nat.mul_le_mul_left (4294967296 ^ j) (show p + 1 ≤ v by omega); rw [Nat.mul_add, Nat.mul_comm (4294967296 ^ j) v] at this; simp only; omega
      · simp only; rw [hdrop, he, Nat.pow_succ]; grind
    rw [decide_eq_false hpl, ZK]; have hp1 : p < 4294967296 ^ (l + 1 + 1) := by
      rw [Nat.pow_succ]; exact Nat.lt_trans hpv (Nat.mul_lt_mul_of_pos_right hv2 (by omega))
    have hplen1 := Zxh hp1; have hplen0 : l + 1 ≤ (Zi 4294967296 p).length := by rw [← hlv]; exact Zad (by decide) (by omega)
    have cl : chk .i64 (((l + 1 : Nat) : Int) - 1) = some (l : Int) := by rw [show ((l + 1 : Nat) : Int) - 1 = (l : Int) by omega, Zcb (by omega)]
    rw [cl, Ze, ZPj (by decide) (by omega : l < (Zi 4294967296 p).length), Ze]; obtain ⟨h, hh⟩ : ∃ h, h = p / 4294967296 ^ l := ⟨_, rfl⟩; have hh64 : h < 18446744073709551616 := by
      rw [hh]; apply Nat.div_lt_of_lt_mul; rw [Nat.pow_succ, Nat.pow_succ] at hp1; rw [show (18446744073709551616 : Nat) = 4294967296 * 4294967296 from rfl, ← Nat.mul_assoc]; exact hp1
    rw [← hh]; have cH : ifb (decide (((l + 1 : Nat) : Int) < ((Zi 4294967296 p).length : Int))) (bnd (idx (Zi 4294967296 p) ((l + 1 : Nat) : Int)) fun y641 => bnd (ZLb .u64 (IntKind.u64.wrap y641) 32) fun y647 => some (orI .u64 (IntKind.u64.wrap ((h % 4294967296 : Nat) : Int)) y647)) (some (IntKind.u64.wrap ((h % 4294967296 : Nat) : Int))) = some (h : Int) := by
      rw [ZBb (by omega)]; have hhd : p / 4294967296 ^ (l + 1) = h / 4294967296 := by rw [hh, Nat.div_div_eq_div_mul, Nat.pow_succ]
      by_cases hq : l + 1 < (Zi 4294967296 p).length
      · rw [decide_eq_true (by omega), ZM, ZPj (by decide) hq, Ze, hhd, ZBb (by omega)]; have hx : h / 4294967296 % 4294967296 = h / 4294967296 := Nat.mod_eq_of_lt (by omega); rw [hx]; have e1 : ZLb .u64 ((h / 4294967296 : Nat) : Int) 32 = some ((h / 4294967296 * 2 ^ 32 : Nat) : Int) := by
          have := Zle (x := h / 4294967296) (k := 32) (by omega); rw [Nat.mod_eq_of_lt (by omega)] at this; exact this
        have e2 : orI .u64 ((h % 4294967296 : Nat) : Int) ((h / 4294967296 * 2 ^ 32 : Nat) : Int) = (h : Int) := by
          have hc : orI .u64 ((h % 4294967296 : Nat) : Int) ((h / 4294967296 * 2 ^ 32 : Nat) : Int) = orI .u64 ((h / 4294967296 * 2 ^ 32 : Nat) : Int) ((h % 4294967296 : Nat) : Int) := by unfold orI; rw [BitVec.or_comm]
          rw [hc, Zmf (k := 32) (by omega) (by omega)]; exact congrArg (fun q : Nat => (q : Int)) (by omega)
        rw [e1, Ze, e2]
      · rw [decide_eq_false (by omega), ZK]; have h0 : p / 4294967296 ^ (l + 1) = 0 := Nat.div_eq_of_lt (by
          have := ZGc (B := 4294967296) (by decide) p; have e : (Zi 4294967296 p).length = l + 1 := by omega
          rwa [e] at this)
        rw [hhd] at h0; exact congrArg (fun q : Nat => some (q : Int)) (by omega)
    rw [cH, Ze, Ze, ZPj (by decide) (by omega : l < (Zi 4294967296 v).length), Ze]; obtain ⟨t, ht⟩ : ∃ t, t = v / 4294967296 ^ l := ⟨_, rfl⟩; have ht1 : 2147483648 ≤ t := by rw [ht, Nat.le_div_iff_mul_le hBl, Nat.mul_comm]; exact hvge
    have ht2 : t < 4294967296 := by rw [ht]; apply Nat.div_lt_of_lt_mul; rw [Nat.pow_succ] at hv2; exact hv2
    rw [← ht, Nat.mod_eq_of_lt ht2, ZBb (by omega), ZJf (by omega) hh64, Ze]; have hq0 : p / v ≤ h / t := by
      rw [hh, ht, Nat.div_div_eq_div_mul]; apply Nat.div_le_div_left
      · exact Nat.mul_div_le v (4294967296 ^ l)
      · exact Nat.mul_pos hBl (by rw [← ht]; omega)
    have hqB : p / v < 4294967296 := (Nat.div_lt_iff_lt_mul hv0).2 (by rw [Nat.mul_comm]; exact hpv); obtain ⟨q, hq⟩ : ∃ q, q = p / v := ⟨_, rfl⟩; rw [← hq] at hq0 hqB; have hpq := Nat.div_add_mod p v; have hpr := Nat.mod_lt p hv0; rw [← hq] at hpq; obtain ⟨g, hg1, hg2, cG⟩ : ∃ g : Nat, q ≤ g ∧ g < 4294967296 ∧ ifb (decide ((4294967295 : Int) < ((h / t : Nat) : Int))) (some (4294967295 : Int)) (some ((h / t : Nat) : Int)) = some (g : Int) := by
      by_cases hx : 4294967295 < h / t
      · exact ⟨4294967295, by omega, by omega, by rw [decide_eq_true (by omega), ZM]; rfl⟩
      · exact ⟨h / t, hq0, by omega, by rw [decide_eq_false (by omega), ZK]⟩
    have okp : ∀ n, n < 4294967296 ^ (l + 1 + 1) → ZJa n := fun n hn => by unfold ZJa; have := Zxh hn; omega
    have hvg : ∀ x, x < 4294967296 → v * x < 4294967296 ^ (l + 1 + 1) := fun x hx => by rw [Nat.pow_succ]; exact Nat.mul_lt_mul'' hv2 hx
    have okg : ZJa g := by
      unfold ZJa; have := Zxh (n := g) (k := 1) (by simpa using hg2); omega
    have okv : ZJa v := by unfold ZJa; omega
    have cN : Zvd (g : Int) = some g := by unfold Zvd; rw [Int.toNat_natCast]
    have cP : Z8a v g = some (v * g) := by unfold Z8a; rw [if_pos ⟨okv, okg⟩]
    rw [cG, Ze, cN, Ze, cP, Ze, ZMa, ZMa]; refine Zfk (s := ((g : Int), v * g)) (fun s : Int × Nat => ∃ x : Nat, s.1 = (x : Int) ∧ s.2 = v * x ∧ q ≤ x ∧ x < 4294967296) (fun s => s.1.toNat) (fun r : Int × Nat => r = ((q : Int), v * q)) ⟨g, rfl, rfl, hg1, hg2⟩ (ZNa (by simp; omega)) ?_ ?_
    · rintro ⟨x, y⟩ ⟨x, rfl, rfl, hx1, hx2⟩; simp only; rw [Ze, Ze, Zel]; by_cases hxp : p < v * x
      · left; have hx0 : q < x := by
          rcases Nat.lt_or_ge q x with h' | h'
          · exact h'
          · have := Nat.mul_le_mul_left v h'; omega
        have cD : Zrc (v * x) v = some (v * (x - 1)) := by
          unfold Zrc; have hle : v * 1 ≤ v * x := Nat.mul_le_mul_left v (by omega); rw [if_pos ⟨okp _ (hvg x hx2), by omega⟩, Nat.mul_sub, Nat.mul_one]
        have cW : IntKind.u64.wrap ((x : Int) - 1) = ((x - 1 : Nat) : Int) := by rw [show (x : Int) - 1 = ((x - 1 : Nat) : Int) by omega, ZBb (by omega)]
        rw [decide_eq_true hxp, ZM, cD, Ze, cW]; exact ⟨_, rfl, ⟨x - 1, rfl, rfl, by omega, by omega⟩, by simp; omega⟩
      · right; have hxq : x = q := by
          have h1 : x ≤ p / v := (Nat.le_div_iff_mul_le hv0).2 (by rw [Nat.mul_comm]; omega); omega
        subst hxq; rw [decide_eq_false hxp, ZK]; exact ⟨_, rfl, rfl⟩
    · rintro _ rfl; rw [Ze]; simp only; have hjr : j < (Zi 4294967296 rest).length := by
        rcases Nat.lt_or_ge j (Zi 4294967296 rest).length with h' | h'
        · exact h'
        · have h1 : (Zi 4294967296 rest).drop j = [] := List.drop_eq_nil_of_le h'; rw [ZCk (by decide), ← hpp] at h1; have := (ZMf (B := 4294967296) (by decide)).1 h1; omega
      have hrl : (Zi 4294967296 rest).length ≤ M + 1 := by
        have := Zad (B := 4294967296) (by decide) hle; have := Zxh hraM; omega
      have cC : Zxb (Zi 4294967296 rest) 0 (j : Int) = some ((Zi 4294967296 rest).take j) := by
        unfold Zxb; rw [if_pos ⟨by omega, by omega, by omega⟩]; simp
      obtain ⟨r, hr⟩ : ∃ r, r = p % v := ⟨_, rfl⟩; rw [← hr] at hpq hpr; have cD : Zrc p (v * q) = some r := by
        unfold Zrc; rw [if_pos ⟨okp p hp1, by omega⟩]; exact congrArg some (by omega)
      have htl : ((Zi 4294967296 rest).take j).length = j := by rw [List.length_take]; omega
      have hrlen : (Zi 4294967296 r).length ≤ l + 1 := by rw [← hlv]; exact Zad (by decide) (by omega)
      rw [Zma hjo, Ze, cC, Ze, Z8d (by simp only [List.nil_append, htl]; omega), Ze, Ze, cD, Ze, Z8d (by simp only [List.nil_append, List.length_append, htl]; omega), Ze]; unfold ZPb; rw [Ze, Ze, List.nil_append, Z2c, htl, Z2a (by decide), Zlq (by decide) _ (by omega)]; have cW : IntKind.u32.wrap (q : Int) = (q : Int) := by rw [wrap_u32]; omega
      rw [cW, Int.toNat_natCast]; simp only; rw [cend, Ze]; have hnew : rest % 4294967296 ^ j + 4294967296 ^ j * r + v * (4294967296 ^ j * q) = rest := by
        rw [← hrp, ← hpq]; grind
      refine ⟨_, rfl, ⟨j, rfl, by omega, by simp [ho], hd.set _ (by omega), fun i hi hij => ?_, ?_, ?_, ?_⟩, by simp⟩
      · simp only at hi ⊢; rw [List.getElem_set_ne (by omega)]; exact hz i (by simpa using hi) (by omega)
      · simp only; have := Nat.mul_le_mul_left (4294967296 ^ j) (show r + 1 ≤ v by omega); rw [Nat.mul_add, Nat.mul_comm (4294967296 ^ j) v] at this; omega
      · simp only; omega
      · simp only; have e6 : (out.set j (q : Int)).drop j = (q : Int) :: out.drop (j + 1) := by
          rw [List.drop_eq_getElem_cons (by simpa using hjo), List.getElem_set_self, List.drop_set_of_lt (by omega)]
        rw [e6]; simp only [val, Int.toNat_natCast]; rw [he]
        conv => lhs; rw [← hnew]
        rw [Nat.pow_succ]; grind
  · rintro ⟨rest, out⟩ ⟨h1, h2, h3⟩; simp only at h1 h2 h3 ⊢; rw [Ze]; simp only; unfold ZPb; have hrl : (Zi 4294967296 rest).length ≤ M + 1 := by
      have := Zad (B := 4294967296) (by decide) h2; have := Zxh hraM; omega
    have cL : Zdg rest (up : Int) = some (rest / 2 ^ up) := by unfold Zdg; rw [if_pos ⟨by unfold ZJa; omega, by omega⟩, Int.toNat_natCast]
    rw [Ze, cL, Ze]; rw [hv] at h1 h3; rw [hra] at h3; obtain ⟨e1, e2⟩ := quo_end (Nat.pos_of_ne_zero hb0) hR h1 h3; rw [e1, e2]
theorem Zno {n m : Nat} {z : Nat × Nat} (h : Z7c n m = some z) : ZHg n m = some z := by
  unfold Z7c at h; split at h
  · rename_i hh; rw [Zen hh.1 hh.2.1 hh.2.2, h]
  · cases h
noncomputable def ZEg (a : Nat) (b : Nat) : Option (Nat) :=
 bnd (bnd (Zga (fun s : Nat × Nat => match s with
 | (d, c) =>
 (ifb (decide ((0 : Int) < (((Zi 4294967296 c)).length : Int)))
 (bnd (Z7c d c) fun e =>
 some (.inl ((c, e.2))))
 (some (.inr d)))) Zqa ((a, b)))
 (fun (f : Nat) =>
 (some f)))
 (fun (g : Nat) =>
 (some g))
noncomputable def Zzh (s : Bool) (n : Nat) (d : Nat) : Option (Rat) :=
 ifb (((((Zi 4294967296 n)).length : Int)) == ((0 : Int)))
 (bnd (ZDc ([(1 : Int)])) fun b =>
 bnd (ZZe false ((0 : Nat)) b) fun c =>
 some c)
 (bnd (rgcF n d) fun a =>
 bnd (Z7c n a) fun e =>
 bnd (Z7c d a) fun f =>
 bnd (ZZe s e.1 f.1) fun g =>
 some g)
theorem ZDj {n m : Nat} (h : n ≤ m) (hm : Z5a m) : Z5a n := by
  have := Zad (B := 4294967296) (by decide) h; unfold Z5a at *; omega
theorem Zak {n : Nat} (h : Z5a n) : bl n ≤ 2199023255552 := by
  unfold Z5a at h; have h1 := ZGc (B := 4294967296) (by decide) n; have h2 : 4294967296 ^ (Zi 4294967296 n).length = 2 ^ (32 * (Zi 4294967296 n).length) := by rw [Nat.pow_mul]
  rw [h2] at h1; have := Zgc h1; omega
theorem sm32_of {n k : Nat} (h : bl n ≤ 32 * k) (hk : k ≤ 68719476736) : Z5a n := by
  unfold Z5a; refine Nat.le_trans (Z8e (B := 4294967296) (k := k) (by decide) ?_) hk; have h1 := ZJe n; have h2 : 4294967296 ^ k = 2 ^ (32 * k) := by rw [Nat.pow_mul]
  rw [h2]; exact Nat.lt_of_lt_of_le h1 (Nat.pow_le_pow_right (by omega) h)
theorem ZIk {n : Nat} (h : bl n ≤ 2199023255552) : Z5a n := sm32_of (k := (bl n + 31) / 32) (by omega) (by omega)
theorem rgcd_eq {n m : Nat} (hn : Z5a n) (hm : Z5a m) : ZEg n m = some (Nat.gcd n m) := by
  unfold ZEg; rw [ZMa]; refine Z4a (fun s : Nat × Nat => Z5a s.1 ∧ Z5a s.2 ∧ Nat.gcd s.1 s.2 = Nat.gcd n m) (fun s => 2 * (bl s.1 + bl s.2) + if s.1 < s.2 then 1 else 0) (fun r : Nat => r = Nat.gcd n m) ⟨hn, hm, rfl⟩
    (ZNa (by have := Zak hn; have := Zak hm; simp only; split <;> omega)) ?_ ?_
  · rintro ⟨a, b⟩ ⟨ha, hb, hg⟩; simp only at ha hb hg ⊢; rw [ZDk]; by_cases h0 : b = 0
    · right; subst h0; exact ⟨_, rfl, by rw [← hg, Nat.gcd_zero_right]⟩
    · left; have h1 : Z7c a b = some (a / b, a % b) := by unfold Z7c; rw [if_pos ⟨ha, hb, h0⟩]
      have hlt : a % b < b := Nat.mod_lt _ (by omega); rw [decide_eq_true h0, ZM, h1, Ze]; refine ⟨_, rfl, ⟨hb, ZDj (Nat.le_of_lt hlt) hb, ?_⟩, ?_⟩
      · rw [← hg]; simp only; rw [Nat.gcd_comm b, ← Nat.gcd_rec, Nat.gcd_comm]
      · simp only; rw [if_neg (by omega)]; by_cases hab : a < b
        · rw [if_pos hab, Nat.mod_eq_of_lt hab]; omega
        · have := ZBl (a := a) (b := b) (by omega) h0; rw [if_neg hab]; omega
  · rintro r rfl; rw [Ze]
theorem rgcF_eq {n m z : Nat} (h : rgcF n m = some z) : ZEg n m = some z := by
  unfold rgcF at h; split at h
  · rename_i hh; rw [rgcd_eq hh.1 hh.2, h]
  · cases h
theorem Zyn {s : Bool} {n d : Nat} (hn : n ≠ 0) (hd : d ≠ 0) : decide ((mkRat (sgn s n) d).num < 0) = s ∧ (mkRat (sgn s n) d).num.natAbs = n / Nat.gcd n d ∧ (mkRat (sgn s n) d).den = d / Nat.gcd n d := by
  have e0 : (sgn s n).natAbs = n := by unfold sgn; split <;> omega
  have hg : 0 < Nat.gcd n d := Nat.gcd_pos_of_pos_left _ (Nat.pos_of_ne_zero hn); have hnum : (mkRat (sgn s n) d).num = sgn s n / (Nat.gcd n d : Int) := by rw [Rat.num_mkRat, Nat.gcd_comm, e0]; simp [hd, Nat.gcd_comm]
  have hden : (mkRat (sgn s n) d).den = d / Nat.gcd n d := by rw [Rat.den_mkRat, e0]; simp [hd, Nat.gcd_comm]
  obtain ⟨k, hk⟩ := Nat.gcd_dvd_left n d; have hk0 : k ≠ 0 := by rintro rfl; simp at hk; exact hn hk
  have hq : sgn s n / (Nat.gcd n d : Int) = sgn s k := by
    have : sgn s n = sgn s k * (Nat.gcd n d : Int) := by
      unfold sgn
      conv => lhs; rw [hk]
      split <;> grind
    rw [this, Int.mul_ediv_cancel _ (by omega)]
  have hnk : n / Nat.gcd n d = k := Nat.div_eq_of_eq_mul_right hg hk; rw [hnum, hq, hnk]; refine ⟨?_, by unfold sgn; split <;> omega, hden⟩
  cases s
  · apply decide_eq_false; simp only [sgn]; simp
  · apply decide_eq_true; simp only [sgn]; simp; omega
theorem Zqn {s : Bool} {n d : Nat} (hn : n ≠ 0) (hd : d ≠ 0) : ZZe s (n / Nat.gcd n d) (d / Nat.gcd n d) = some (mkRat (sgn s n) d) := by
  obtain ⟨h1, h2, h3⟩ := Zyn (s := s) hn hd; have := ZOm (mkRat (sgn s n) d); rw [h1, h2, h3] at this; exact this
theorem ZQp : ZZe false 0 1 = some 0 := ZOm 0
theorem Zbq {s : Bool} {n d : Nat} {z : Rat} (h : ZMb s n d = some z) : Zzh s n d = some z := by
  unfold ZMb at h; split at h
  · rename_i hh; obtain ⟨h1, h2, h3⟩ := hh
    cases h
    unfold Zzh; rw [ZAi]; by_cases h0 : n = 0
    · subst h0; rw [decide_eq_true rfl, ZM, ZSj, Ze, ZQp, Ze]; have e : sgn s 0 = 0 := by cases s <;> rfl
      rw [e, Rat.zero_mkRat]
    · have e1 : rgcF n d = some (Nat.gcd n d) := by unfold rgcF; rw [if_pos ⟨h1, h2⟩]
      have hg : Nat.gcd n d ≠ 0 := by have := Nat.gcd_pos_of_pos_left d (Nat.pos_of_ne_zero h0); omega
      have okg : Z5a (Nat.gcd n d) := ZDj (Nat.gcd_le_left _ (Nat.pos_of_ne_zero h0)) h1; have e2 : Z7c n (Nat.gcd n d) = some (n / Nat.gcd n d, n % Nat.gcd n d) := by unfold Z7c; rw [if_pos ⟨h1, okg, hg⟩]
      have e3 : Z7c d (Nat.gcd n d) = some (d / Nat.gcd n d, d % Nat.gcd n d) := by unfold Z7c; rw [if_pos ⟨h2, okg, hg⟩]
      rw [decide_eq_false h0, ZK, e1, Ze, e2, Ze, e3, Ze, Zqn h0 h3, Ze]
  · cases h
noncomputable def Zrg (n : Int) : Option (Rat) :=
 ifb (decide (n < (0 : Int)))
 (bnd (Zvd (IntKind.u64.wrap (-(IntKind.u64.wrap n)))) fun a =>
 bnd (ZDc ([(1 : Int)])) fun b =>
 bnd (ZMb true a b) fun c =>
 some c)
 (bnd (Zvd (IntKind.u64.wrap n)) fun d =>
 bnd (ZDc ([(1 : Int)])) fun e =>
 bnd (ZMb false d e) fun f =>
 some f)
noncomputable def Zoi (n : Int) (d : Int) : Option (Rat × Int) :=
 ifb (d == ((0 : Int)))
 (bnd (Zzc ((0 : Int))) fun c =>
 some ((c, (3 : Int))))
 (bnd (Zzc n) fun a =>
 bnd (Zzc d) fun b =>
 bnd (ZMb ((decide (a.num < 0)) != (decide (b.num < 0))) a.num.natAbs b.num.natAbs) fun e =>
 some ((e, (0 : Int))))
noncomputable def Z8i (r : (Int × Int)) : Option (Rat) :=
 ifb (r.2 == ((0 : Int)))
 (bnd (Zzc r.1) fun a =>
 some a)
 (bnd (Zig r.1 r.2) fun b =>
 some b.1)
noncomputable def Z2i (x : Rat) : Option (Int) :=
 bnd (ZQd x) fun a =>
 ifb (a)
 (some ((0 : Int)))
 (ifb (decide (x.num < 0))
 (some ((-1 : Int)))
 (some ((1 : Int))))
theorem Zeg {n : Nat} (h : n ≤ 18446744073709551616) : Z5a n := ZIk (Nat.le_trans (Zgc (show n < 2 ^ 65 by omega)) (by decide))
theorem ZDl (n : Int) : mkRat n 1 = (n : Rat) := by
  have := Rat.mkRat_self (n : Rat)
  simpa using this
theorem Zso {n : Int} (h1 : -9223372036854775808 ≤ n) (h2 : n ≤ 9223372036854775807) : Zrg n = some (n : Rat) := by
  unfold Zrg; rw [ZSj]; unfold Zvd ZMb; by_cases h : n < 0
  · obtain ⟨k, rfl⟩ : ∃ k : Nat, n = -(k : Int) := ⟨n.natAbs, by omega⟩; have e1 : IntKind.u64.wrap (-(IntKind.u64.wrap (-(k : Int)))) = (k : Int) := by rw [wrap_u64, wrap_u64]; omega
    rw [decide_eq_true h, ZM, e1, Ze, Ze, Int.toNat_natCast, if_pos ⟨Zeg (by omega), Zeg (by omega), by omega⟩, Ze, ZDl]; rfl
  · obtain ⟨k, rfl⟩ := Int.eq_ofNat_of_zero_le (show 0 ≤ n by omega); rw [decide_eq_false h, ZK, ZBb (by omega), Ze, Ze, Int.toNat_natCast, if_pos ⟨Zeg (by omega), Zeg (by omega), by omega⟩, Ze, ZDl]; rfl
theorem Zzo {n : Int} {z : Rat} (hn : inR .i64 n) (h : Zzc n = some z) : Zrg n = some z := by
  have := ZVb.1 hn; unfold Zzc at h; rw [Zso (by omega) (by omega), h]
theorem Zbo (n m : Int) : sgn (decide (n < 0) != decide (m < 0)) n.natAbs = if m < 0 then -n else n := by
  have := ZBj n m; unfold Zob at this; exact Option.some.inj this
theorem Ztp {n d : Int} {z : Rat × Int} (hn : inR .i64 n) (hd : inR .i64 d) (h : Zig n d = some z) : Zoi n d = some z := by
  have hn := ZVb.1 hn; have hd := ZVb.1 hd; unfold Zig at h
  cases h
  unfold Zoi Zzc; by_cases h0 : d = 0
  · subst h0; rfl
  · have e0 : (d == 0) = false := by simp [h0]
    rw [e0, ZK, if_neg h0, Ze, Ze]; unfold ZMb; rw [Rat.num_intCast, Rat.num_intCast, if_pos ⟨Zeg (by omega), Zeg (by omega), by omega⟩, Ze, Zbo, ← Zjj]
theorem rofF_eq {r : Int × Int} {z : Rat} (h : ZSc r = some z) : Z8i r = some z := by
  unfold ZSc at h
  cases h
  unfold Z8i Zhb Zzc Zig; by_cases h0 : r.2 = 0
  · rw [if_pos h0, h0]; rfl
  · have : (r.2 == 0) = false := by simp [h0]
    rw [this, ZK, Ze, if_neg h0, if_neg h0]
theorem Zho {x : Rat} {z : Int} (h : ZEc x = some z) : Z2i x = some z := by
  unfold ZEc at h
  cases h
  unfold Z2i ZQd; rw [Ze]; by_cases h0 : x = 0
  · subst h0; rfl
  · have := ZPi h0; rw [decide_eq_false h0, ZK]; by_cases h1 : x.num < 0
    · rw [decide_eq_true h1, ZM, Int.sign_eq_neg_one_of_neg h1]
    · rw [decide_eq_false h1, ZK, Int.sign_eq_one_of_pos (by omega)]
end Go.Eng
namespace Go.Eng
open Go.RowKit
def ZKl (P : Program) (f : FuncId) (T e : TypeId) : Prop := ∀ (B b : Nat) (bs : List Value) (s : ByteArray) (w : World), Lib.IsBuilder T e B b bs w → bs.length + s.size ≤ 140737488355328 → B ≤ w.heap.size →
  Calls P f #[.pointer (some ⟨b, 0, none⟩), .string s] w fun x w' => x = .returned (.tuple #[.int .i64 s.size, .nilIface]) ∧ (Lib.BuilderAt T e B b (.pointer (some ⟨b, 0, none⟩)) (bs ++ Lib.strCells s) w' ∧ Below B w w')
def Tells (P : Program) (f : FuncId) (T e : TypeId) : Prop := ∀ (B b : Nat) (l : List UInt8) (w : World), Lib.IsBuilder T e B b (Lib.byteCells l) w → B ≤ w.heap.size →
  Calls P f #[.pointer (some ⟨b, 0, none⟩)] w fun x w' => x = .returned (.string ⟨l.toArray⟩) ∧ Below B w w'
structure Bld (T e b : Nat) (w0 : Base) (v : Zd) (m : List UInt8) (w : World) : Prop where
  is : Lib.IsBuilder T e b b (Lib.byteCells m) w
  old : ∀ k o, v k = some o → k < b
  base : w0.wd.heap.size ≤ b
  lt : b ≤ w.heap.size
variable {P : Program} {K : Nat} {w0 : Base} {v0 : Zd} {σ : List (Nat × Value)} {ℓ : List Loc} {v : Zd} {a : Act} {w : World}
variable {ops : Array Oper} {Q : Exit → Act → World → Prop} {rest : List Oper}
theorem St.below {w' : World} {b : Nat} (h : St K w0 v0 σ [] v a w) (x : Below b w w') (hv : ∀ k o, v k = some o → k < b) (hb : w0.wd.heap.size ≤ b) : St K w0 v0 σ [] v a w' :=
  ⟨h.size, h.dfr, h.fr, ⟨x.os.trans h.ext.os, x.tape.trans h.ext.tape, x.output.trans h.ext.output, Nat.le_trans h.ext.size x.size, fun k hk hn => (x.block k (by omega)).trans (h.ext.block k hk hn)⟩,
    ⟨h.vst.le, fun k o e => (x.block k (hv k o e)).trans (h.vst.vin k o e), h.vst.old⟩, fun e he => by simp at he, List.nodup_nil⟩
theorem op_newB {o : Oper} {d T : Nat} (e : Nat) (hS : St K w0 v0 σ ℓ v a w) (hw : Region.wanted o (yielded ops a.tmps) = true) (hd : o.dst = some d) (hK : d < K)
    (hrun : (execOp a.eval o).run P w = .ok (.value (.pointer (some ⟨w.heap.size, 0, none⟩))) (w.alloc (.cells #[.pointer none, .slice none 0 0] T)))
    (h : ∀ b a w, St K w0 v0 ((d, .pointer (some ⟨b, 0, none⟩)) :: σ) [] v a w → Bld T e b w0 v [] w → wpList P ops Q rest a w) : wpList P ops Q (o :: rest) a w :=
  Zfe hw (ZMe hrun (by
    rw [hd]
    have h1 : St K w0 v0 σ [] v a w := hS.drop (List.nil_sublist _)
    have h2 : Ext w (w.alloc (.cells #[.pointer none, .slice none 0 0] T)) := Ext.alloc w _
    exact h w.heap.size _ _ ((h1.step h2 (VStep.ext h1.vin h2)).put _ hK) ⟨Lib.fresh_isBuilder T e w, fun k o hk => h1.vin.lt hk, h1.ext.size, h2.size⟩))
theorem Zrn (l l' : List UInt8) : Lib.byteCells l ++ Lib.strCells (Z2 l') = Lib.byteCells (l ++ l') := by simp [Lib.byteCells, Lib.strCells, Z2]
theorem Zvp {o : Oper} {d f T e b : Nat} {m s : List UInt8} (hW : ZKl P f T e) (hB : Bld T e b w0 v m w) (hl : (m ++ s).length ≤ 140737488355328) (hS : St K w0 v0 σ [] v a w) (hw : Region.wanted o (yielded ops a.tmps) = true) (hd : o.dst = some d) (hK : d < K)
    (hrun : (execOp a.eval o).run P w = .ok (.enter f #[.pointer (some ⟨b, 0, none⟩), .string (Z2 s)]) w)
    (h : ∀ a w, St K w0 v0 ((d, .tuple #[.int .i64 s.length, .nilIface]) :: σ) [] v a w → Bld T e b w0 v (m ++ s) w → wpList P ops Q rest a w) : wpList P ops Q (o :: rest) a w := by
  have hc := hW b b (Lib.byteCells m) (Z2 s) w hB.is (by rw [Lib.byteCells_length, Zwd, ← List.length_append]; exact hl) hB.lt; refine Zfe hw (Z8f hrun (Calls.mono hc fun x w' ⟨e1, e2, e3⟩ => ⟨_, e1, ?_⟩)); rw [hd]; rw [Zwd] at *; rw [Zrn] at e2; exact h _ _ ((hS.below e3 hB.old hB.base).put _ hK) ⟨.inr e2, hB.old, hB.base, Nat.le_trans hB.lt e3.size⟩
theorem op_tell {o : Oper} {d f T e b : Nat} {m : List UInt8} (hT : Tells P f T e) (hB : Bld T e b w0 v m w) (hS : St K w0 v0 σ [] v a w) (hw : Region.wanted o (yielded ops a.tmps) = true) (hd : o.dst = some d) (hK : d < K)
    (hrun : (execOp a.eval o).run P w = .ok (.enter f #[.pointer (some ⟨b, 0, none⟩)]) w)
    (h : ∀ a w, St K w0 v0 ((d, .string (Z2 m)) :: σ) [] v a w → wpList P ops Q rest a w) : wpList P ops Q (o :: rest) a w := by
  have hc := hT b b m w hB.is hB.lt; refine Zfe hw (Z8f hrun (Calls.mono hc fun x w' ⟨e1, e3⟩ => ⟨_, e1, ?_⟩)); rw [hd]; exact h _ _ ((hS.below e3 hB.old hB.base).put _ hK)
def ZCg (l : List UInt8) : Option Unit := if l.length ≤ 140737488355328 then some () else none
theorem ZXp {l : List UInt8} {u : Unit} (h : ZCg l = some u) : l.length ≤ 140737488355328 := by
  unfold ZCg at h; split at h
  · assumption
  · cases h
theorem Zip {q : Option Nat} {b o : Nat} (h : mkA q = some ⟨b, o, none⟩) : q = some b ∧ o = 0 := by
  cases q with
  | none => cases h
  | some c => cases h; exact ⟨rfl, rfl⟩
noncomputable def ZFg (a : Nat) : Option ((List UInt8)) :=
 bnd (bnd (Zga (fun s : Nat × (List UInt8) => match s with
 | (e, f) =>
 (ifb (decide ((0 : Int) < (((Zi 4294967296 e)).length : Int)))
 (bnd (ZGe e ((1000000000 : Int))) fun c =>
 bnd (bnd (Zga (fun s : (List UInt8) × Int × Int => match s with
 | (d, b, g) =>
 (bnd (ifb (decide (g < (9 : Int)))
 (ifb (decide ((0 : Int) < (((Zi 4294967296 c.1)).length : Int)))
 (some true)
 (some (decide ((0 : Int) < b))))
 (some false))
 (fun (j : Bool) =>
 (ifb (j)
 (bnd (rem .u32 b ((10 : Int))) fun k =>
 bnd (rem .u32 b ((10 : Int))) fun l =>
 bnd (Zxb (([48, 49, 50, 51, 52, 53, 54, 55, 56, 57] : List UInt8)) k (IntKind.u32.wrap (l + ((1 : Int))))) fun h =>
 bnd (Zbc (h ++ d)) fun r =>
 bnd (quo .u32 b ((10 : Int))) fun m =>
 bnd (chk .i64 (g + ((1 : Int)))) fun n =>
 some (.inl (((h ++ d), m, n))))
 (some (.inr d)))))) Zqa ((f, c.2, (0 : Int))))
 (fun (o : (List UInt8)) =>
 (some o)))
 (fun (p : (List UInt8)) =>
 (some (.inl ((c.1, p))))))
 (some (.inr f)))) Zqa ((a, ([] : List UInt8))))
 (fun (q : (List UInt8)) =>
 (some q)))
 (fun (i : (List UInt8)) =>
 (ifb (i == (([] : List UInt8)))
 (some (([48] : List UInt8)))
 (some i)))
noncomputable def Zpg (a : Nat) : Option ((List UInt8)) :=
 bnd (bnd (Zga (fun s : Nat × (List (List UInt8)) => match s with
 | (h, c) =>
 (ifb (decide ((0 : Int) < (((Zi 18446744073709551616 h)).length : Int)))
 (bnd (Z5d h ((10000000000000000000 : Int))) fun d =>
 bnd (Ztf d.2) fun b =>
 bnd (ifb (decide ((0 : Int) < (((Zi 18446744073709551616 d.1)).length : Int)))
 (bnd (chk .i64 (((19 : Int)) - ((b.length : Int)))) fun m =>
 bnd (ZDf (([48] : List UInt8)) m) fun i =>
 bnd (Zbc (i ++ b)) fun r =>
 some ((i ++ b)))
 (some b))
 (fun (j : (List UInt8)) =>
 (bnd (Znb 16 (c ++ [j])) fun t =>
 some (.inl ((d.1, (c ++ [j])))))))
 (some (.inr c)))) Zqa ((a, ([] : (List (List UInt8))))))
 (fun (n : (List (List UInt8))) =>
 (some n)))
 (fun (e : (List (List UInt8))) =>
 (ifb (((e.length : Int)) == ((0 : Int)))
 (some (([48] : List UInt8)))
 (bnd (chk .i64 (((e.length : Int)) - ((1 : Int)))) fun o =>
 bnd (bnd (Zga (fun s : (List UInt8) × Int => match s with
 | (f, g) =>
 (ifb (decide ((0 : Int) ≤ g))
 (bnd (idx e g) fun k =>
 bnd (ZCg (f ++ k)) fun u =>
 bnd (chk .i64 (g - ((1 : Int)))) fun p =>
 some (.inl (((f ++ k), p))))
 (some (.inr f)))) Zqa ((([] : List UInt8), o)))
 (fun (q : (List UInt8)) =>
 (some q)))
 (fun (l : (List UInt8)) =>
 (bnd (Zbc l) fun v =>
 some l)))))
noncomputable def ZZi (x : Rat) : Option ((List UInt8)) :=
 bnd (ZXf ((x.num).natAbs)) fun a =>
 bnd (ifb (decide (x.num < 0))
 (bnd (Zbc ((([45] : List UInt8)) ++ a)) fun e =>
 some (((([45] : List UInt8)) ++ a)))
 (some a))
 (fun (b : (List UInt8)) =>
 (bnd (ifb (decide ((0 : Int) < (((Zi 18446744073709551616 ((Zfb x.den)))).length : Int)))
 (bnd (ZXf ((Zfb x.den))) fun c =>
 bnd (Zbc ((([47] : List UInt8)) ++ c)) fun f =>
 bnd (Zbc (b ++ (((([47] : List UInt8)) ++ c)))) fun g =>
 some ((b ++ (((([47] : List UInt8)) ++ c)))))
 (some b))
 (fun (d : (List UInt8)) =>
 (some d))))
theorem Zdi (n : Nat) : (ZEa n).length ≤ bl n := by
  induction n using Nat.strongRecOn with
  | ind n ih =>
    by_cases h : n = 0
    · subst h; rw [ZNc]; simp
    · rw [ZFe h, List.length_append]; have h1 := ih (n / 10) (by omega); have h2 : bl (n / 10) + 1 ≤ bl n := by
        rw [ZJh h]; exact Nat.add_le_add_right (Zfd (by omega)) 1
      simp only [List.length_cons, List.length_nil]; omega
theorem ZGn {n k : Nat} (h : n < 10 ^ k) : (ZEa n).length ≤ k := by
  induction k generalizing n with
  | zero => simp at h; subst h; rw [ZNc]; simp
  | succ k ih =>
    by_cases h0 : n = 0
    · subst h0; rw [ZNc]; simp
    · rw [ZFe h0, List.length_append]; have := ih (n := n / 10) (by rw [Nat.pow_succ] at h; omega); simp only [List.length_cons, List.length_nil]; omega
theorem Zyq {q : Nat} (hq : q ≠ 0) : ∀ (k r : Nat), r < 10 ^ k → ZEa (q * 10 ^ k + r) = ZEa q ++ (List.replicate (k - (ZEa r).length) 48 ++ ZEa r) := by
  intro k
  induction k with
  | zero => intro r h; simp at h; subst h; rw [ZNc]; simp
  | succ k ih =>
    intro r h; rw [Nat.pow_succ] at h; have hn : q * 10 ^ (k + 1) + r ≠ 0 := by
      have : 0 < q * 10 ^ (k + 1) := Nat.mul_pos (by omega) (Nat.pow_pos (by omega)); omega
    have e1 : (q * 10 ^ (k + 1) + r) / 10 = q * 10 ^ k + r / 10 := by rw [Nat.pow_succ, ← Nat.mul_assoc]; generalize q * 10 ^ k = p; omega
    have e2 : (q * 10 ^ (k + 1) + r) % 10 = r % 10 := by rw [Nat.pow_succ, ← Nat.mul_assoc]; generalize q * 10 ^ k = p; omega
    rw [ZFe hn, e1, e2, ih (r / 10) (by omega)]; by_cases h0 : r = 0
    · subst h0; simp only [Nat.zero_div, ZNc, List.length_nil, Nat.sub_zero, List.append_nil, List.append_assoc]; congr 1; rw [List.replicate_succ']; rfl
    · rw [ZFe h0, List.length_append]; simp only [List.length_cons, List.length_nil, List.append_assoc]; rw [show k + 1 - ((ZEa (r / 10)).length + (0 + 1)) = k - (ZEa (r / 10)).length by omega]
theorem Z2d {l : List UInt8} (h : l.length ≤ 140737488355328) : Zbc l = some () := by unfold Zbc; rw [if_pos (by unfold maxLen; omega)]
theorem Z5n {d : Nat} (h : d < 10) : Zxb ([48, 49, 50, 51, 52, 53, 54, 55, 56, 57] : List UInt8) (d : Int) ((d + 1 : Nat) : Int) = some [UInt8.ofNat (48 + d)] := by
  have : d = 0 ∨ d = 1 ∨ d = 2 ∨ d = 3 ∨ d = 4 ∨ d = 5 ∨ d = 6 ∨ d = 7 ∨ d = 8 ∨ d = 9 := by omega
  rcases this with rfl | rfl | rfl | rfl | rfl | rfl | rfl | rfl | rfl | rfl <;> rfl
theorem quo_u32 {p q : Nat} (hq : 0 < q) (hp : p < 4294967296) : quo .u32 (p : Int) (q : Int) = some ((p / q : Nat) : Int) := by
  unfold quo; rw [if_neg (by omega)]; have e : (p : Int).tdiv (q : Int) = ((p / q : Nat) : Int) := by simp [Int.tdiv_eq_ediv_of_nonneg]
  have h : p / q ≤ p := Nat.div_le_self _ _; generalize p / q = r at *; have h5 : inR .u32 (r : Int) := (show (0 : Int) ≤ (r : Int) ∧ (r : Int) ≤ 4294967295 from ⟨by omega, by omega⟩); rw [e, Z4j h5]
theorem beq_nil {l : List UInt8} : (l == ([] : List UInt8)) = decide (l = []) := by
  cases l <;> rfl
theorem Zdl {n : Nat} : ZEa n = [] ↔ n = 0 := by
  constructor
  · intro h; rcases Nat.eq_zero_or_pos n with h0 | h0
    · exact h0
    · rw [ZFe (by omega)] at h; simp at h
  · rintro rfl; exact ZNc
theorem ZEp {a : Nat} (ha : Z5a a) : ZFg a = some (Zqb a) := by
  unfold ZFg; rw [ZMa]; have hbl := Zak ha; refine Z4a (fun s : Nat × List UInt8 => Z5a s.1 ∧ ZEa s.1 ++ s.2 = ZEa a) (fun s => bl s.1) (fun r : List UInt8 => r = ZEa a) ⟨ha, by simp⟩ (ZNa (by simp only; omega)) ?_ ?_
  · rintro ⟨x, s⟩ ⟨hx, he⟩; simp only at hx he ⊢; rw [ZDk]; by_cases h0 : x = 0
    · right; subst h0; rw [show decide ((0 : Nat) ≠ 0) = false from rfl, ZK]; exact ⟨_, rfl, by rw [← he, ZNc]; rfl⟩
    · left; have e1 : ZGe x (1000000000 : Int) = some (x / 1000000000, ((x % 1000000000 : Nat) : Int)) := by
        unfold ZGe; rw [if_pos ⟨by unfold ZJa; unfold Z5a at hx; omega, by omega⟩]; rfl
      rw [decide_eq_true h0, ZM, e1, Ze, ZMa]; have hslen : s.length ≤ 4398046511104 := by
        have := Zdi a; rw [← he, List.length_append] at this; omega
      refine Zfk (s := (s, ((x % 1000000000 : Nat) : Int), (0 : Int))) (fun t : List UInt8 × Int × Int => ∃ r k m : Nat, t.2.1 = (r : Int) ∧ t.2.2 = (k : Int) ∧ k + m = 9 ∧ r < 10 ^ m ∧ r < 1000000000 ∧ ZEa (x / 1000000000 * 10 ^ m + r) ++ t.1 = ZEa a) (fun t => 9 - t.2.2.toNat)
        (fun t : List UInt8 => ZEa (x / 1000000000) ++ t = ZEa a) ⟨x % 1000000000, 0, 9, rfl, rfl, rfl, Nat.mod_lt _ (by decide), Nat.mod_lt _ (by decide), by
          rw [show x / 1000000000 * 10 ^ 9 + x % 1000000000 = x by omega]; exact he⟩ (ZNa (by simp)) ?_ ?_
      · rintro ⟨t, r, k⟩ ⟨r, k, m, rfl, rfl, hk, hr, hr2, hd⟩; simp only at hd ⊢; rw [ZDk]; have htl : t.length ≤ 4398046511104 := by
          have := Zdi a; rw [← hd, List.length_append] at this; omega
        have cond : ifb (decide ((k : Int) < 9)) (ifb (decide (x / 1000000000 ≠ 0)) (some true) (some (decide ((0 : Int) < (r : Int))))) (some false) = some (decide (k < 9 ∧ x / 1000000000 * 10 ^ m + r ≠ 0)) := by
          by_cases h1 : k < 9
          · rw [decide_eq_true (by omega), ZM]; by_cases h2 : x / 1000000000 = 0
            · rw [decide_eq_false (by simp [h2]), ZK, h2]; exact congrArg some (decide_eq_decide.2 (by omega))
            · rw [decide_eq_true h2, ZM]; have : 0 < x / 1000000000 * 10 ^ m := Nat.mul_pos (by omega) (Nat.pow_pos (by omega)); rw [decide_eq_true ⟨h1, by omega⟩]
          · rw [decide_eq_false (by omega), ZK, decide_eq_false (by omega)]
        rw [cond, Ze]; by_cases hc : k < 9 ∧ x / 1000000000 * 10 ^ m + r ≠ 0
        · left; obtain ⟨h1, h2⟩ := hc; obtain ⟨m, rfl⟩ : ∃ j, m = j + 1 := ⟨m - 1, by omega⟩; have c1 : rem .u32 (r : Int) 10 = some ((r % 10 : Nat) : Int) := ZXe (q := 10) (by omega); have c2 : quo .u32 (r : Int) 10 = some ((r / 10 : Nat) : Int) := quo_u32 (q := 10) (by omega) (by omega); have c3 : IntKind.u32.wrap (((r % 10 : Nat) : Int) + 1) = ((r % 10 + 1 : Nat) : Int) := by rw [wrap_u32]; omega
          have c4 : chk .i64 ((k : Int) + 1) = some ((k + 1 : Nat) : Int) := by rw [show (k : Int) + 1 = ((k + 1 : Nat) : Int) by omega, Zcb (by omega)]
          rw [decide_eq_true ⟨h1, h2⟩, ZM, c1, Ze, Ze, c3, Z5n (Nat.mod_lt _ (by omega)), Ze, Z2d (by simp; omega), Ze, c2, Ze, c4, Ze]; rw [Nat.pow_succ] at hr; refine ⟨_, rfl, ⟨r / 10, k + 1, m, rfl, rfl, by omega, by omega, by omega, ?_⟩, by simp; omega⟩; simp only; rw [← hd, ZFe h2, List.append_assoc]; have e2 : (x / 1000000000 * 10 ^ (m + 1) + r) / 10 = x / 1000000000 * 10 ^ m + r / 10 := by rw [Nat.pow_succ, ← Nat.mul_assoc]; generalize x / 1000000000 * 10 ^ m = p; omega
          have e3 : (x / 1000000000 * 10 ^ (m + 1) + r) % 10 = r % 10 := by rw [Nat.pow_succ, ← Nat.mul_assoc]; generalize x / 1000000000 * 10 ^ m = p; omega
          rw [e2, e3]
        · right; rw [decide_eq_false hc, ZK]; refine ⟨_, rfl, ?_⟩; rw [← hd]; congr 2; by_cases hm : m = 0
          · subst hm; simp at hr; simp [hr]
          · have h2 : x / 1000000000 * 10 ^ m + r = 0 := by
              rcases Nat.eq_zero_or_pos (x / 1000000000 * 10 ^ m + r) with h | h
              · exact h
              · exact absurd ⟨by omega, by omega⟩ hc
            have h3 : x / 1000000000 * 10 ^ m = 0 := by omega
            rcases Nat.mul_eq_zero.1 h3 with h | h
            · rw [h2, h]
            · exact absurd h (Nat.pos_iff_ne_zero.1 (Nat.pow_pos (by omega)))
      · rintro t ht; rw [Ze]; refine ⟨_, rfl, ⟨ZDj (Nat.div_le_self _ _) hx, ht⟩, ?_⟩; simp only; have := ZJh h0; have h3 : bl (x / 1000000000) ≤ bl (x / 2) := Zfd (by omega); omega
  · rintro r rfl; rw [Ze, beq_nil]; unfold Zqb; by_cases h0 : a = 0
    · subst h0; rw [decide_eq_true ZNc, ZM, if_pos rfl]
    · rw [decide_eq_false (fun h => h0 (Zdl.1 h)), ZK, if_neg h0]
theorem Zcq {n : Nat} {z : List UInt8} (h : Zag n = some z) : ZFg n = some z := by
  unfold Zag at h; split at h
  · rename_i hh; rw [ZEp hh, h]
  · cases h
theorem Znn (r : List (List UInt8)) (j : Nat) : ((r.drop j).reverse.flatten).length ≤ r.reverse.flatten.length := by
  have h : r.reverse.flatten = (r.drop j).reverse.flatten ++ (r.take j).reverse.flatten := by
    rw [← List.flatten_append, ← List.reverse_append, List.take_append_drop]
  rw [h, List.length_append]; omega
theorem Zmm (c : UInt8) : ∀ k : Nat, (List.replicate k [c]).flatten = List.replicate k c
  | 0 => rfl
  | k + 1 => by rw [List.replicate_succ, List.flatten_cons, Zmm c k, List.replicate_succ]; rfl
theorem text_eq {a : Nat} (ha : okN a) : Zpg a = some (Zqb a) := by
  unfold Zpg; have hbl := ZTj ha; have hda := Zdi a; rw [ZMa]; refine Z4a (fun s : Nat × List (List UInt8) => okN s.1 ∧ ZEa s.1 ++ s.2.reverse.flatten = ZEa a ∧ bl s.1 + s.2.length ≤ bl a) (fun s => bl s.1) (fun r : List (List UInt8) => r.reverse.flatten = ZEa a ∧ r.length ≤ bl a ∧ (a ≠ 0 → r ≠ [])) ⟨ha, by simp, by simp⟩ (ZNa (by simp only; omega)) ?_ ?_
  · rintro ⟨x, s⟩ ⟨hx, he, hl⟩; simp only at hx he hl ⊢; by_cases h0 : x = 0
    · right; subst h0; rw [ZUa, show decide ((0 : Int) < (([] : List Int).length : Int)) = false from rfl, ZK]; rw [ZNc, List.nil_append] at he; refine ⟨_, rfl, he, by omega, fun h1 h2 => ?_⟩; subst h2; exact h1 (Zdl.1 he.symm)
    · left; have hpos := List.length_pos_iff.2 ((ZKc (n := x) (B := 18446744073709551616) (by decide)).2 h0); have e1 : Z5d x (10000000000000000000 : Int) = some (x / 10000000000000000000, ((x % 10000000000000000000 : Nat) : Int)) := by
        unfold Z5d; rw [if_pos ⟨hx, by omega⟩]; rfl
      have e2 : Ztf ((x % 10000000000000000000 : Nat) : Int) = some (ZEa (x % 10000000000000000000)) := by unfold Ztf; rw [Int.toNat_natCast]
      rw [decide_eq_true (show (0 : Int) < ((Zi 18446744073709551616 x).length : Int) by omega), ZM, e1, Ze]; simp only; rw [e2, Ze]; have hr : (ZEa (x % 10000000000000000000)).length ≤ 19 := ZGn (k := 19) (Nat.mod_lt _ (by decide)); have hb2 : bl (x / 10000000000000000000) + 1 ≤ bl x := by
        rw [ZJh h0]; exact Nat.add_le_add_right (Zfd (by omega)) 1
      have hsplit : ∃ p : List UInt8, ifb (decide ((0 : Int) < ((Zi 18446744073709551616 (x / 10000000000000000000)).length : Int))) (bnd (chk .i64 (19 - ((ZEa (x % 10000000000000000000)).length : Int))) fun y218 => bnd (ZDf [48] y218) fun y220 => bnd (Zbc (y220 ++ ZEa (x % 10000000000000000000))) fun y227 => some (y220 ++ ZEa (x % 10000000000000000000))) (some (ZEa (x % 10000000000000000000))) = some p ∧ ZEa (x / 10000000000000000000) ++ p = ZEa x := by
        by_cases hq : x / 10000000000000000000 = 0
        · refine ⟨_, by rw [hq, ZUa]; rfl, ?_⟩; rw [hq, ZNc, List.nil_append]; congr 1; omega
        · have hpos := List.length_pos_iff.2 ((ZKc (n := x / 10000000000000000000) (B := 18446744073709551616) (by decide)).2 hq); obtain ⟨k, hk⟩ : ∃ k, k = 19 - (ZEa (x % 10000000000000000000)).length := ⟨_, rfl⟩; have e3 : chk .i64 (19 - ((ZEa (x % 10000000000000000000)).length : Int)) = some (k : Int) := by rw [show (19 - ((ZEa (x % 10000000000000000000)).length : Int)) = (k : Int) by omega, Zcb (by omega)]
          have e4 : ZDf [48] (k : Int) = some (List.replicate k 48) := by
            unfold ZDf; rw [if_pos ⟨by omega, by simp; omega⟩, Int.toNat_natCast, Zmm]
          refine ⟨List.replicate k 48 ++ ZEa (x % 10000000000000000000), ?_, ?_⟩
          · rw [decide_eq_true (by omega), ZM, e3, Ze, e4, Ze, Z2d (by simp; omega), Ze]
          · have := Zyq hq 19 (x % 10000000000000000000) (Nat.mod_lt _ (by decide)); rw [show x / 10000000000000000000 * 10 ^ 19 + x % 10000000000000000000 = x by omega] at this; rw [this, hk]
      obtain ⟨p, ep, hp⟩ := hsplit; rw [ep, Ze, Z8d (by simp; omega), Ze]; refine ⟨_, rfl, ⟨ZRh (Nat.div_le_self _ _) hx, ?_, by simp; omega⟩, by simp only; omega⟩; simp only [List.reverse_append, List.reverse_cons, List.reverse_nil, List.nil_append, List.singleton_append, List.flatten_cons]; rw [← List.append_assoc, hp, he]
  · rintro r ⟨hr, hl, hne⟩; rw [Ze]; by_cases h0 : a = 0
    · subst h0; have : r = [] := by
        have := hl; simp [bl] at this; exact this
      subst this; rfl
    · have hne := hne h0; have hpos : 0 < r.length := List.length_pos_iff.2 hne; have e1 : ((r.length : Int) == 0) = false := beq_false_of_ne (by omega); rw [e1, ZK, ZFa (by omega) (by omega), Ze, ZMa]; unfold Zqb; rw [if_neg h0]; refine Z4a (fun s : List UInt8 × Int => ∃ k : Nat, s.2 = (k : Int) - 1 ∧ k ≤ r.length ∧ s.1 = (r.drop k).reverse.flatten) (fun s => (s.2 + 1).toNat) (fun t : List UInt8 => t = ZEa a) ⟨r.length, rfl, by omega, by simp⟩ (ZNa (by simp only; omega)) ?_ ?_
      · rintro ⟨s, i⟩ ⟨k, hi, hk, hs⟩; simp only at hi hs ⊢; subst hi hs; by_cases hk0 : k = 0
        · right; subst hk0; rw [show decide ((0 : Int) ≤ ((0 : Nat) : Int) - 1) = false from rfl, ZK]; exact ⟨_, rfl, by rw [List.drop_zero]; exact hr⟩
        · left; obtain ⟨j, rfl⟩ : ∃ j, k = j + 1 := ⟨k - 1, by omega⟩; have ej : ((j + 1 : Nat) : Int) - 1 = (j : Int) := by omega
          have hj : j < r.length := by omega
          have hnew : (r.drop (j + 1)).reverse.flatten ++ r[j] = (r.drop j).reverse.flatten := by
            rw [List.drop_eq_getElem_cons hj, List.reverse_cons, List.flatten_append]; simp
          have hlen : ((r.drop j).reverse.flatten).length ≤ r.reverse.flatten.length := Znn r j; rw [hr] at hlen; have e2 : ZCg ((r.drop (j + 1)).reverse.flatten ++ r[j]) = some () := by unfold ZCg; rw [if_pos (by rw [hnew]; omega)]
          rw [ej, decide_eq_true (show (0 : Int) ≤ (j : Int) by omega), ZM, Zma hj, Ze, e2, Ze, ZFa (by omega) (by omega), Ze]; exact ⟨_, rfl, ⟨j, rfl, by omega, hnew⟩, by simp⟩
      · rintro t rfl; rw [Ze, Z2d (by omega), Ze]
theorem Zyp {n : Nat} {z : List UInt8} (h : ZXf n = some z) : Zpg n = some z := by
  unfold ZXf at h; split at h
  · rename_i hh; rw [text_eq hh, h]
  · cases h
theorem Zki {n : Nat} (h : bl n ≤ 4398046511104) : (Zqb n).length ≤ 4398046511104 := by
  unfold Zqb; split
  · simp
  · have := Zdi n; omega
theorem Zqo {x : Rat} {z : List UInt8} (h : Z0d x = some z) : ZZi x = some z := by
  unfold Z0d at h; split at h
  · rename_i hh; obtain ⟨h1, h2⟩ := hh
    cases h
    unfold ZZi ZXf; have l1 := Zki (n := x.num.natAbs) (by omega); have l2 := Zki (n := x.den) (by omega); rw [if_pos (ZYa (by omega)), Ze]; have e1 : ifb (decide (x.num < 0)) (bnd (Zbc ([45] ++ Zqb x.num.natAbs)) fun y80 => some (([45] : List UInt8) ++ Zqb x.num.natAbs)) (some (Zqb x.num.natAbs)) = some ((if x.num < 0 then [45] else []) ++ Zqb x.num.natAbs) := by
      by_cases h : x.num < 0
      · rw [decide_eq_true h, ZM, Z2d (by simp; omega), Ze, if_pos h]
      · rw [decide_eq_false h, ZK, if_neg h]; rfl
    rw [e1, Ze]; unfold txtQ; have l3 : ((if x.num < 0 then [45] else []) ++ Zqb x.num.natAbs : List UInt8).length ≤ 4398046511105 := by
      rw [List.length_append]; split <;> simp <;> omega
    generalize ((if x.num < 0 then [45] else []) ++ Zqb x.num.natAbs : List UInt8) = s at *; by_cases hd : x.den = 1
    · rw [hd]; rw [show Zfb 1 = 0 from rfl, ZUa]; simp [ifb, bnd]
    · have e2 : Zfb x.den = x.den := by unfold Zfb; rw [if_neg hd]
      have hpos := List.length_pos_iff.2 ((ZKc (n := x.den) (B := 18446744073709551616) (by decide)).2 x.den_nz); rw [e2, decide_eq_true (by omega), ZM, if_pos (ZYa (by omega)), Ze, Z2d (by simp; omega), Ze, Z2d (by simp; omega), Ze, Ze, if_neg hd]; rfl
  · cases h
noncomputable def ZIi (x : Rat) : Option (Bool) :=
 bnd (Ztd x) fun a =>
 some (decide (a ≤ (0 : Int)))
noncomputable def Z0h (l : (List Rat)) (g : Unit) : Option (Int) :=
 bnd (bnd (Zga (fun s : Int => match s with
 | a =>
 (ifb (decide (a < (l.length : Int)))
 (bnd (idx l a) fun b =>
 bnd (ZIi b) fun c =>
 ifb (c)
 (some (.inr ((.inl a))))
 (bnd (chk .i64 (a + ((1 : Int)))) fun d =>
 some (.inl d)))
 (some (.inr ((.inr (()))))))) Zqa ((0 : Int)))
 (fun (p : (Int) ⊕ (Unit)) => match p with
 | .inl e =>
 (some ((.inr e)))
 | .inr (()) =>
 (some ((.inl (()))))))
 (fun (p : (Unit) ⊕ (Int)) => match p with
 | .inl (()) =>
 (some ((-1 : Int)))
 | .inr f =>
 (some f))
noncomputable def Zwg (l : (List Rat)) (g : Unit) : Option (Bool) :=
 bnd (Z0h l (())) fun a =>
 some (decide ((0 : Int) ≤ a))
noncomputable def ZUf (l : (List Rat)) : Option (Bool) :=
 bnd (Zwg l (())) fun a =>
 some (!(a))
noncomputable def Zqk (t : (Rat × (List Rat))) : Option (Int) :=
 bnd (ZUf ([t.1])) fun b =>
 ifb (!(b))
 (some ((1 : Int)))
 (bnd (ifb (((t.2.length : Int)) == ((0 : Int)))
 (some true)
 (some (decide ((16 : Int) ≤ (t.2.length : Int)))))
 (fun (c : Bool) =>
 (ifb (c)
 (some ((4 : Int)))
 (bnd (bnd (Zga (fun s : Int => match s with
 | a =>
 (ifb (decide (a < (t.2.length : Int)))
 (bnd (idx t.2 a) fun d =>
 bnd (ifb (decide ((0 : Int) < a))
 (bnd (chk .i64 (a - ((1 : Int)))) fun e =>
 bnd (idx t.2 e) fun f =>
 bnd (Z5c d f) fun g =>
 some (decide (g ≤ (0 : Int))))
 (some false))
 (fun (h : Bool) =>
 (ifb (h)
 (some (.inr ((.inl ((7 : Int))))))
 (bnd (chk .i64 (a + ((1 : Int)))) fun i =>
 some (.inl i)))))
 (some (.inr ((.inr (()))))))) Zqa ((0 : Int)))
 (fun (p : (Int) ⊕ (Unit)) => match p with
 | .inl j =>
 (some ((.inr j)))
 | .inr (()) =>
 (some ((.inl (()))))))
 (fun (p : (Unit) ⊕ (Int)) => match p with
 | .inl (()) =>
 (some ((0 : Int)))
 | .inr k =>
 (some k))))))
noncomputable def Zek (y : Rat) (r : Rat) : Option (Bool) :=
 bnd (Z5c y r) fun a =>
 some (decide ((0 : Int) ≤ a))
noncomputable def ZIj (l : (List Rat)) (g : Rat) : Option (Int) :=
 bnd (bnd (Zga (fun s : Int => match s with
 | a =>
 (ifb (decide (a < (l.length : Int)))
 (bnd (idx l a) fun b =>
 bnd (Zek b g) fun c =>
 ifb (c)
 (some (.inr ((.inl a))))
 (bnd (chk .i64 (a + ((1 : Int)))) fun d =>
 some (.inl d)))
 (some (.inr ((.inr (()))))))) Zqa ((0 : Int)))
 (fun (p : (Int) ⊕ (Unit)) => match p with
 | .inl e =>
 (some ((.inr e)))
 | .inr (()) =>
 (some ((.inl (()))))))
 (fun (p : (Unit) ⊕ (Int)) => match p with
 | .inl (()) =>
 (some ((-1 : Int)))
 | .inr f =>
 (some f))
noncomputable def Z0j (t : (Rat × (List Rat))) (x : Rat) : Option (Int) :=
 bnd (ZUh x t.1) fun b =>
 bnd (ZIj t.2 b.1) fun a =>
 ifb (decide (a < (0 : Int)))
 (some ((t.2.length : Int)))
 (some a)
noncomputable def Zzk (t : (Rat × (List Rat))) (x : Rat) : Option (Int × Int) :=
 bnd (Zqk ((t.1, t.2))) fun a =>
 ifb (a != ((0 : Int)))
 (some (((0 : Int), a)))
 (bnd (Z0j ((t.1, t.2)) x) fun b =>
 some ((b, (0 : Int))))
noncomputable def Zxf (d : ((Int × Int) × (Int × Int) × (Int × Int))) : Option ((Rat × Rat × Rat) × (Rat × Rat × Rat)) :=
 bnd (Zpc ((d.1.1, d.1.2))) fun a =>
 bnd (Zpc ((d.2.1.1, d.2.1.2))) fun b =>
 bnd (Zpc ((d.2.2.1, d.2.2.2))) fun c =>
 bnd (ZSc ((d.1.1, d.1.2))) fun e =>
 bnd (ZSc ((d.2.1.1, d.2.1.2))) fun f =>
 bnd (ZSc ((d.2.2.1, d.2.2.2))) fun g =>
 some (((a, b, c), (e, f, g)))
noncomputable def Zoe (x : Rat) (y : Rat) : Option (Rat) :=
 bnd (ZJd x y) fun a =>
 some a.1
noncomputable def Znc (n : Int) : Option (Rat) :=
 bnd (Zrd n) fun a =>
 some a
noncomputable def Z5e (d : (Rat × Rat × Rat)) : Option (Bool) :=
 bnd (ZUf ([d.1, d.2.1, d.2.2])) fun a =>
 some a
noncomputable def Zpe (d : (Rat × Rat × Rat)) (x : Rat) (y : Rat) : Option (Rat × Int) :=
 bnd (Z5e ((d.1, d.2.1, d.2.2))) fun a =>
 ifb (!(a))
 (some (((0 : Rat), (1 : Int))))
 (bnd (Z6b x y) fun b =>
 bnd (Znc ((1 : Int))) fun c =>
 bnd (Zoe d.2.1 d.1) fun e =>
 bnd (Zec c e) fun f =>
 bnd (Z4b b f) fun g =>
 some ((g, (0 : Int))))
noncomputable def Zgj (i : Int) (k : Int) : Option (Rat) :=
 ifb (i == k)
 (bnd (Znc ((1 : Int))) fun a =>
 some a)
 (some ((0 : Rat)))
noncomputable def ZZj (t : (List (List Int))) (n : Int) (g : Unit) : Option (Rat × Rat) :=
 bnd (bnd (mk 8 ((t.length : Int)) ((t.length : Int))) fun an =>
 bnd (mk 8 ((t.length : Int)) ((t.length : Int))) fun ao =>
 some (((List.replicate ((t.length : Int)).toNat ((0 : Int))), (List.replicate ((t.length : Int)).toNat ((0 : Int))))))
 (fun (p : (List Int) × (List Int)) => match p with
 | (u, v) =>
 (bnd (bnd (Zga (fun s : (List Int) × (List Int) × Int => match s with
 | (h, i, a) =>
 (ifb (decide (a < (t.length : Int)))
 (bnd (idx t a) fun j =>
 bnd (bnd (Zga (fun s : (List Int) × (List Int) × Int => match s with
 | (e, f, b) =>
 (ifb (decide (b < (j.length : Int)))
 (bnd (idx j b) fun k =>
 bnd (idx e a) fun w =>
 bnd (chk .i64 (w + k)) fun x =>
 bnd (idx e a) fun ap =>
 bnd (idx f b) fun y =>
 bnd (chk .i64 (y + k)) fun z =>
 bnd (idx f b) fun aq =>
 bnd (chk .i64 (b + ((1 : Int)))) fun A =>
 some (.inl (((e.set (a).toNat x), (f.set (b).toNat z), A))))
 (some (.inr ((e, f)))))) Zqa ((h, i, (0 : Int))))
 (fun (p : (List Int) × (List Int)) => match p with
 | (B, C) =>
 (some ((B, C)))))
 (fun (p : (List Int) × (List Int)) => match p with
 | (D, E) =>
 (bnd (chk .i64 (a + ((1 : Int)))) fun F =>
 some (.inl ((D, E, F))))))
 (some (.inr ((h, i)))))) Zqa ((u, v, (0 : Int))))
 (fun (p : (List Int) × (List Int)) => match p with
 | (G, H) =>
 (some ((G, H)))))
 (fun (p : (List Int) × (List Int)) => match p with
 | (I, J) =>
 (bnd (bnd (Zga (fun s : Rat × Rat × Int => match s with
 | (l, m, c) =>
 (ifb (decide (c < (t.length : Int)))
 (bnd (idx t c) fun o =>
 bnd (bnd (Zga (fun s : Rat × Rat × Int => match s with
 | (q, r, d) =>
 (ifb (decide (d < (o.length : Int)))
 (bnd (idx o d) fun K =>
 bnd (Zgj c d) fun L =>
 bnd (Znc K) fun M =>
 bnd (Z4b L M) fun N =>
 bnd (Zec q N) fun O =>
 bnd (Zgj c d) fun P =>
 bnd (idx I c) fun Q =>
 bnd (Znc Q) fun R =>
 bnd (Z4b P R) fun S =>
 bnd (idx J d) fun T =>
 bnd (Znc T) fun U =>
 bnd (Z4b S U) fun V =>
 bnd (Zec r V) fun W =>
 bnd (chk .i64 (d + ((1 : Int)))) fun X =>
 some (.inl ((O, W, X))))
 (some (.inr ((q, r)))))) Zqa ((l, m, (0 : Int))))
 (fun (p : Rat × Rat) => match p with
 | (Y, Z) =>
 (some ((Y, Z)))))
 (fun (p : Rat × Rat) => match p with
 | (aa, ab) =>
 (bnd (chk .i64 (c + ((1 : Int)))) fun ac =>
 some (.inl ((aa, ab, ac))))))
 (some (.inr ((l, m)))))) Zqa (((0 : Rat), (0 : Rat), (0 : Int))))
 (fun (p : Rat × Rat) => match p with
 | (ad, ae) =>
 (some ((ad, ae)))))
 (fun (p : Rat × Rat) => match p with
 | (af, ag) =>
 (bnd (Znc n) fun ah =>
 bnd (Zoe af ah) fun ai =>
 bnd (Znc n) fun aj =>
 bnd (Znc n) fun ak =>
 bnd (Z4b aj ak) fun al =>
 bnd (Zoe ag al) fun am =>
 some ((ai, am))))))))
noncomputable def Zsj (r : (List Int)) (t : (List (List Int))) : Option (Bool) :=
 some (((r.length : Int)) != ((t.length : Int)))
noncomputable def Zik (l : (List (List Int))) (g : (List (List Int))) : Option (Int) :=
 bnd (bnd (Zga (fun s : Int => match s with
 | a =>
 (ifb (decide (a < (l.length : Int)))
 (bnd (idx l a) fun b =>
 bnd (Zsj b g) fun c =>
 ifb (c)
 (some (.inr ((.inl a))))
 (bnd (chk .i64 (a + ((1 : Int)))) fun d =>
 some (.inl d)))
 (some (.inr ((.inr (()))))))) Zqa ((0 : Int)))
 (fun (p : (Int) ⊕ (Unit)) => match p with
 | .inl e =>
 (some ((.inr e)))
 | .inr (()) =>
 (some ((.inl (()))))))
 (fun (p : (Unit) ⊕ (Int)) => match p with
 | .inl (()) =>
 (some ((-1 : Int)))
 | .inr f =>
 (some f))
noncomputable def ZMj (l : (List (List Int))) (g : (List (List Int))) : Option (Bool) :=
 bnd (Zik l g) fun a =>
 some (decide ((0 : Int) ≤ a))
noncomputable def Z1j (t : (List (List Int))) : Option (Int × Int) :=
 bnd (ifb (((t.length : Int)) == ((0 : Int)))
 (some ((t, true)))
 (ifb (decide ((8 : Int) < (t.length : Int)))
 (some ((t, true)))
 (bnd (ZMj t t) fun i =>
 some ((t, i)))))
 (fun (p : (List (List Int)) × Bool) => match p with
 | (d, j) =>
 (ifb (j)
 (some (((0 : Int), (4 : Int))))
 (bnd (bnd (Zga (fun s : Int × Int => match s with
 | (e, a) =>
 (ifb (decide (a < (d.length : Int)))
 (bnd (idx d a) fun f =>
 bnd (bnd (Zga (fun s : Int × Int => match s with
 | (g, b) =>
 (ifb (decide (b < (f.length : Int)))
 (bnd (idx f b) fun c =>
 bnd (ifb (decide (c < (0 : Int)))
 (some true)
 (some (decide ((1000000 : Int) < c))))
 (fun (k : Bool) =>
 (ifb (k)
 (some (.inr ((.inl (((0 : Int), (1 : Int)))))))
 (bnd (chk .i64 (g + c)) fun l =>
 bnd (chk .i64 (b + ((1 : Int)))) fun m =>
 some (.inl ((l, m)))))))
 (some (.inr ((.inr g)))))) Zqa ((e, (0 : Int))))
 (fun (p : (Int × Int) ⊕ (Int)) => match p with
 | .inl ((n, o)) =>
 (some ((.inr ((n, o)))))
 | .inr q =>
 (some ((.inl q)))))
 (fun (p : (Int) ⊕ (Int × Int)) => match p with
 | .inl r =>
 (bnd (chk .i64 (a + ((1 : Int)))) fun u =>
 some (.inl ((r, u))))
 | .inr ((v, w)) =>
 (some (.inr ((.inl ((v, w))))))))
 (some (.inr ((.inr e)))))) Zqa (((0 : Int), (0 : Int))))
 (fun (p : (Int × Int) ⊕ (Int)) => match p with
 | .inl ((x, y)) =>
 (some ((.inr ((x, y)))))
 | .inr z =>
 (some ((.inl z)))))
 (fun (p : (Int) ⊕ (Int × Int)) => match p with
 | .inl h =>
 (ifb (h == ((0 : Int)))
 (some (((0 : Int), (3 : Int))))
 (some ((h, (0 : Int)))))
 | .inr ((A, B)) =>
 (some ((A, B)))))))
noncomputable def ZBk (t : (List (List Int))) (g : Unit) : Option (Rat × Int) :=
 bnd (Z1j t) fun a =>
 ifb (a.2 != ((0 : Int)))
 (some (((0 : Rat), a.2)))
 (bnd (ZZj t a.1 (())) fun b =>
 bnd (bnd (Z6b b.1 b.2) fun d =>
 bnd (Znc ((1 : Int))) fun e =>
 bnd (Z6b e b.2) fun f =>
 bnd (ZJd d f) fun c =>
 some ((c.2, c.1)))
 (fun (p : Int × Rat) => match p with
 | (h, i) =>
 (ifb (h != ((0 : Int)))
 (some (((0 : Rat), (5 : Int))))
 (some ((i, (0 : Int)))))))
noncomputable def ZVj (t : (List (List Int))) : Option (Rat × Int) :=
 bnd (ZBk t (())) fun a =>
 some ((a.1, a.2))
noncomputable def Zvj (l : (List (Int × Int))) : Option ((List Rat) × (List Rat)) :=
 bnd (bnd (Zga (fun s : (List Rat) × (List Rat) × Int => match s with
 | (b, c, d) =>
 (ifb (decide (d < (l.length : Int)))
 (bnd (idx l d) fun a =>
 bnd (Zpc ((a.1, a.2))) fun e =>
 bnd (Znb 56 (b ++ [e])) fun m =>
 bnd (ZSc ((a.1, a.2))) fun f =>
 bnd (Znb 56 (c ++ [f])) fun n =>
 bnd (chk .i64 (d + ((1 : Int)))) fun g =>
 some (.inl (((b ++ [e]), (c ++ [f]), g))))
 (some (.inr ((b, c)))))) Zqa ((([] : (List Rat)), ([] : (List Rat)), (0 : Int))))
 (fun (p : (List Rat) × (List Rat)) => match p with
 | (h, i) =>
 (some ((h, i)))))
 (fun (p : (List Rat) × (List Rat)) => match p with
 | (j, k) =>
 (some ((j, k))))
noncomputable def ZUj (step : (Int × Int)) (limits : (List (Int × Int))) : Option ((Rat × (List Rat)) × (Rat × (List Rat))) :=
 bnd (Zvj limits) fun a =>
 bnd (Zpc ((step.1, step.2))) fun b =>
 bnd (ZSc ((step.1, step.2))) fun c =>
 some (((b, a.1), (c, a.2)))
noncomputable def Z3e  : Option (Bool) :=
 bnd (Zxf ((((2 : Int), (0 : Int)), ((1 : Int), (2 : Int)), ((4000 : Int), (0 : Int))))) fun a =>
 bnd (bnd (Zrd ((48 : Int))) fun f =>
 bnd (Zrd ((8 : Int))) fun g =>
 bnd (Zpe ((a.1.1, a.1.2.1, a.1.2.2)) f g) fun b =>
 some ((b.1, b.2)))
 (fun (p : Rat × Int) => match p with
 | (h, i) =>
 (bnd (ZVj ([[(20 : Int), (5 : Int)], [(10 : Int), (15 : Int)]])) fun c =>
 bnd (ZUj (((1 : Int), (10 : Int))) ([((1 : Int), (0 : Int)), ((2 : Int), (0 : Int))])) fun d =>
 bnd (Zpc (((206 : Int), (100 : Int)))) fun j =>
 bnd (Zzk ((d.1.1, d.1.2)) j) fun e =>
 bnd (ifb (i == ((0 : Int)))
 (ifb (c.2 == ((0 : Int)))
 (ifb (e.2 == ((0 : Int)))
 (bnd (Z0d h) fun k =>
 ifb (k == (([53, 48] : List UInt8)))
 (bnd (Z0d c.1) fun l =>
 ifb (l == (([50, 47, 53] : List UInt8)))
 (some (e.1 == ((2 : Int))))
 (some false))
 (some false))
 (some false))
 (some false))
 (some false))
 (fun (m : Bool) =>
 (some m))))
noncomputable def Z7g (d : (Rat × Rat × Rat)) : Option (Bool) :=
 bnd (bnd (ZEc d.1) fun a =>
 ifb (decide ((0 : Int) < a))
 (bnd (ZEc d.2.1) fun b =>
 ifb (decide ((0 : Int) < b))
 (bnd (ZEc d.2.2) fun c =>
 some (decide ((0 : Int) < c)))
 (some false))
 (some false))
 (fun (e : Bool) =>
 (some e))
theorem num_pos {q : Rat} : 0 < q.num ↔ 0 < q := by
  have h1 := Rat.num_nonneg (q := q); have h2 := Rat.num_eq_zero (q := q); constructor
  · intro h; have h3 : 0 ≤ q := h1.1 (by omega); have h4 : q ≠ 0 := fun e => by have := h2.2 e; omega
    grind
  · intro h; have h3 : 0 ≤ q.num := h1.2 (by grind); have h4 : q.num ≠ 0 := fun e => by have := h2.1 e; grind
    omega
theorem num_neg {q : Rat} : q.num < 0 ↔ q < 0 := by
  have h1 := Rat.num_nonneg (q := q); constructor
  · intro h; rcases Rat.le_total (a := 0) (b := q) with h3 | h3
    · have := h1.2 h3; omega
    · have h4 : q ≠ 0 := fun e => by subst e; simp at h
      grind
  · intro h; rcases Int.lt_or_le q.num 0 with h3 | h3
    · exact h3
    · have := h1.1 h3; grind
theorem ZSf {q : Rat} : (0 < q.num.sign) ↔ 0 < q := by
  rw [← num_pos]; rcases Int.lt_trichotomy q.num 0 with h | h | h
  · rw [Int.sign_eq_neg_one_of_neg h]; omega
  · rw [h]; simp
  · rw [Int.sign_eq_one_of_pos h]; omega
theorem Zwl {q : Rat} : (q.num.sign < 0) ↔ q < 0 := by
  rw [← num_neg]; rcases Int.lt_trichotomy q.num 0 with h | h | h
  · rw [Int.sign_eq_neg_one_of_neg h]; omega
  · rw [h]; simp
  · rw [Int.sign_eq_one_of_pos h]; omega
theorem ZMl {q : Rat} : (q.num.sign ≤ 0) ↔ q ≤ 0 := by
  have h := ZSf (q := q); constructor
  · intro h1; rcases Rat.le_total (a := q) (b := 0) with h2 | h2
    · exact h2
    · by_cases h3 : q = 0
      · grind
      · have := h.2 (by grind); omega
  · intro h1; rcases Int.lt_or_le 0 q.num.sign with h2 | h2
    · have := h.1 h2; grind
    · exact h2
def sz (k : Nat) (x : Rat) : Prop := bl x.num.natAbs ≤ k ∧ bl x.den ≤ k
theorem sz.mono {k m : Nat} {x : Rat} (h : sz k x) (hk : k ≤ m) : sz m x := ⟨by have := h.1; omega, by have := h.2; omega⟩
theorem sz.ok {k : Nat} {x : Rat} (h : sz k x) (hk : k ≤ 1099511627776) : okQ x := ⟨by have := h.1; omega, by have := h.2; omega⟩
theorem sz.sm {k : Nat} {x : Rat} (h : sz k x) (hk : k ≤ 68719476736) : smQ x := ⟨by have := h.1; omega, by have := h.2; omega⟩
theorem Zhd {k m : Nat} {x y : Rat} (h : sz k x) (h' : sz m y) : sz (k + m + 1) (x + y) := by
  have := Z9k x y; obtain ⟨a, b⟩ := h; obtain ⟨c, d⟩ := h'; exact ⟨by omega, by omega⟩
theorem Z1c {k m : Nat} {x y : Rat} (h : sz k x) (h' : sz m y) : sz (k + m + 1) (x - y) := by
  have := Z2k x y; obtain ⟨a, b⟩ := h; obtain ⟨c, d⟩ := h'; exact ⟨by omega, by omega⟩
theorem ZAe {k m : Nat} {x y : Rat} (h : sz k x) (h' : sz m y) : sz (k + m) (x * y) := by
  have := ZXn x y; obtain ⟨a, b⟩ := h; obtain ⟨c, d⟩ := h'; exact ⟨by omega, by omega⟩
theorem Zlf {k m : Nat} {x y : Rat} (h : sz k x) (h' : sz m y) : sz (k + m + 1) (x / y) := by
  have := Zhm (x := x) (y := y); obtain ⟨a, b⟩ := h; obtain ⟨c, d⟩ := h'; exact ⟨by omega, by omega⟩
theorem sz_neg {k : Nat} {x : Rat} (h : sz k x) : sz k (-x) := by
  obtain ⟨a, b⟩ := h; have := ZGi x; exact ⟨by rw [this.1]; exact a, by rw [this.2]; exact b⟩
theorem Zzd {n : Int} (h : -9223372036854775808 ≤ n ∧ n ≤ 9223372036854775807) : sz 64 (n : Rat) := by
  have h2 := Zok n; have h3 : bl n.natAbs ≤ 64 := Zgc (show n.natAbs < 2 ^ 64 by omega); exact ⟨by omega, by omega⟩
def i64 (r : Int × Int) : Prop := (-9223372036854775808 ≤ r.1 ∧ r.1 ≤ 9223372036854775807) ∧ (-9223372036854775808 ≤ r.2 ∧ r.2 ≤ 9223372036854775807)
theorem ZZf {r : Int × Int} (h : i64 r) : sz 64 (Zhb r) := by
  unfold Zhb; by_cases h0 : r.2 = 0
  · rw [if_pos h0]; exact Zzd h.1
  · rw [if_neg h0, Zjj]; obtain ⟨⟨a, b⟩, c, d⟩ := h; rcases ZYi (if r.2 < 0 then -r.1 else r.1) r.2.natAbs with ⟨h1, h2⟩ | h1
    · have h3 : bl (if r.2 < 0 then -r.1 else r.1).natAbs ≤ 64 := Zgc (show _ < 2 ^ 64 by split <;> omega); have h4 : bl r.2.natAbs ≤ 64 := Zgc (show _ < 2 ^ 64 by omega); exact ⟨by omega, by omega⟩
    · omega
theorem Zbj {k m : Nat} {x y : Rat} (h : sz k x) (h' : sz m y) (hk : k + m ≤ 1000000000) : Zec x y = some (x + y) := by unfold Zec; rw [if_pos ⟨h.ok (by omega), h'.ok (by omega)⟩]
theorem Zrh {k m : Nat} {x y : Rat} (h : sz k x) (h' : sz m y) (hk : k + m ≤ 1000000000) : Z6b x y = some (x - y) := by unfold Z6b; rw [if_pos ⟨h.ok (by omega), h'.ok (by omega)⟩]
theorem ZXj {k m : Nat} {x y : Rat} (h : sz k x) (h' : sz m y) (hk : k + m ≤ 1000000000) : Z4b x y = some (x * y) := by unfold Z4b; rw [if_pos ⟨h.ok (by omega), h'.ok (by omega)⟩]
theorem qdiv_ok {k m : Nat} {x y : Rat} (h : sz k x) (h' : sz m y) (hk : k + m ≤ 1000000000) (hy : y ≠ 0) : ZJd x y = some (x / y, 0) := by unfold ZJd; rw [if_pos ⟨h.ok (by omega), h'.ok (by omega)⟩, if_neg hy]
theorem ZHl {k m : Nat} {x y : Rat} (h : sz k x) (h' : sz m y) (hk : k + m ≤ 1000000000) : Z5c x y = some (x - y).num.sign := by unfold Z5c; rw [if_pos ⟨h.ok (by omega), h'.ok (by omega)⟩]
def decG : Nat → Nat → List UInt8
  | 0, _ => []
  | k + 1, n => if n = 0 then [] else decG k (n / 10) ++ [UInt8.ofNat (48 + n % 10)]
theorem Zsk : ∀ (k n : Nat), n ≤ k → decG k n = ZEa n
  | 0, n, h => by
    have : n = 0 := by omega
    subst this; rw [ZNc]; rfl
  | k + 1, n, h => by
    by_cases h0 : n = 0
    · subst h0; rw [ZNc]; rfl
    · rw [ZFe h0, decG, if_neg h0, Zsk k (n / 10) (by omega)]
def txtG (x : Rat) : List UInt8 := (if x.num < 0 then [45] else []) ++ (if x.num.natAbs = 0 then [48] else decG x.num.natAbs x.num.natAbs) ++ (if x.den = 1 then [] else 47 :: (if x.den = 0 then [48] else decG x.den x.den))
theorem txtG_eq : txtG = txtQ := by
  funext x
  unfold txtG txtQ Zqb; rw [Zsk _ _ (Nat.le_refl _), Zsk _ _ (Nat.le_refl _)]
def Zlm (x : Rat) : Option (List UInt8) := if okQ x then some (txtG x) else none
theorem Zrq : Z0d = Zlm := by
  funext x
  unfold Z0d Zlm; rw [txtG_eq]
set_option maxRecDepth 100000 in
theorem Z6p : Z3e = some true := by
  unfold Z3e; rw [Zrq]; decide +kernel
theorem ZEj {α β : Type} {x : Option α} {y : α} {f : α → Option β} {z : Option β} (h : x = some y) (h2 : f y = z) : bnd x f = z := by subst h; rw [Ze]; exact h2
noncomputable def ZTh (x : Rat) : Option (Bool) :=
 bnd (Ztd x) fun a =>
 some (decide (a < (0 : Int)))
noncomputable def ZFh (l : (List Rat)) (g : Unit) : Option (Int) :=
 bnd (bnd (Zga (fun s : Int => match s with
 | a =>
 (ifb (decide (a < (l.length : Int)))
 (bnd (idx l a) fun b =>
 bnd (ZTh b) fun c =>
 ifb (c)
 (some (.inr ((.inl a))))
 (bnd (chk .i64 (a + ((1 : Int)))) fun d =>
 some (.inl d)))
 (some (.inr ((.inr (()))))))) Zqa ((0 : Int)))
 (fun (p : (Int) ⊕ (Unit)) => match p with
 | .inl e =>
 (some ((.inr e)))
 | .inr (()) =>
 (some ((.inl (()))))))
 (fun (p : (Unit) ⊕ (Int)) => match p with
 | .inl (()) =>
 (some ((-1 : Int)))
 | .inr f =>
 (some f))
noncomputable def Zgg (l : (List Rat)) (g : Unit) : Option (Bool) :=
 bnd (ZFh l (())) fun a =>
 some (decide ((0 : Int) ≤ a))
noncomputable def Z2f (l : (List Rat)) : Option (Bool) :=
 bnd (Zgg l (())) fun a =>
 some a
noncomputable def Zug (x : Rat) (dx : Rat) (y : Rat) (dy : Rat) : Option (Bool × Int) :=
 bnd (Z2f ([dx, dy])) fun a =>
 ifb (a)
 (some ((false, (1 : Int))))
 (bnd (bnd (Z6b x dx) fun b =>
 bnd (Zec y dy) fun c =>
 bnd (Z5c b c) fun d =>
 ifb (decide (d ≤ (0 : Int)))
 (bnd (Z6b y dy) fun e =>
 bnd (Zec x dx) fun f =>
 bnd (Z5c e f) fun g =>
 some ((decide (g ≤ (0 : Int)), (0 : Int))))
 (some ((false, (0 : Int)))))
 (fun (p : Bool × Int) => match p with
 | (h, i) =>
 (some ((h, i)))))
noncomputable def ZCe (d : (Rat × Rat × Rat)) (x : Rat) (y : Rat) : Option (Rat × Int) :=
 bnd (Z5e ((d.1, d.2.1, d.2.2))) fun a =>
 ifb (!(a))
 (some (((0 : Rat), (1 : Int))))
 (bnd (Z6b x y) fun b =>
 bnd (Zoe b d.1) fun c =>
 some ((c, (0 : Int))))
theorem Zsq (l : List Rat) (hl : l.length ≤ 4611686018427387904) : Zwg l () = some (l.any fun x => decide (x.num.sign ≤ 0)) := by
  unfold Zwg Z0h ZIi Ztd; rw [ZMa, ZMa]; refine Z4a (fun s : Int => ∃ k : Nat, s = (k : Int) ∧ k ≤ l.length ∧ (l.take k).any (fun x => decide (x.num.sign ≤ 0)) = false) (fun s => l.length - s.toNat)
      (fun r : Int ⊕ Unit => (∃ k : Nat, r = .inl (k : Int) ∧ l.any (fun x => decide (x.num.sign ≤ 0)) = true) ∨ r = .inr () ∧ l.any (fun x => decide (x.num.sign ≤ 0)) = false) ⟨0, rfl, by omega, rfl⟩ (ZNa (by simp; omega)) ?_ ?_
  · rintro s ⟨k, rfl, hk, ha⟩; simp only; by_cases h : k < l.length
    · rw [decide_eq_true (by omega), ZM, Zma h, Ze, Ze, Ze]; by_cases h2 : l[k].num.sign ≤ 0
      · right; rw [decide_eq_true h2, ZM]; exact ⟨_, rfl, .inl ⟨k, rfl, List.any_eq_true.2 ⟨l[k], List.getElem_mem h, decide_eq_true h2⟩⟩⟩
      · left; rw [decide_eq_false h2, ZK, ZFa (by omega) (by omega), Ze]; refine ⟨_, rfl, ⟨k + 1, by simp, by omega, ?_⟩, by simp; omega⟩; rw [List.take_succ_eq_append_getElem h, List.any_append, ha]; simp only [List.any_cons, List.any_nil, Bool.or_false, Bool.false_or]; exact decide_eq_false h2
    · right; rw [decide_eq_false (by omega), ZK]; rw [List.take_of_length_le (by omega)] at ha; exact ⟨_, rfl, .inr ⟨rfl, ha⟩⟩
  · rintro r (⟨k, rfl, h⟩ | ⟨rfl, h⟩)
    · rw [h]; simp only [Ze]; exact congrArg some (decide_eq_true (by omega))
    · rw [h]; rfl
theorem Zwq (l : List Rat) (hl : l.length ≤ 4611686018427387904) : Zgg l () = some (l.any fun x => decide (x.num.sign < 0)) := by
  unfold Zgg ZFh ZTh Ztd; rw [ZMa, ZMa]; refine Z4a (fun s : Int => ∃ k : Nat, s = (k : Int) ∧ k ≤ l.length ∧ (l.take k).any (fun x => decide (x.num.sign < 0)) = false) (fun s => l.length - s.toNat)
      (fun r : Int ⊕ Unit => (∃ k : Nat, r = .inl (k : Int) ∧ l.any (fun x => decide (x.num.sign < 0)) = true) ∨ r = .inr () ∧ l.any (fun x => decide (x.num.sign < 0)) = false) ⟨0, rfl, by omega, rfl⟩ (ZNa (by simp; omega)) ?_ ?_
  · rintro s ⟨k, rfl, hk, ha⟩; simp only; by_cases h : k < l.length
    · rw [decide_eq_true (by omega), ZM, Zma h, Ze, Ze, Ze]; by_cases h2 : l[k].num.sign < 0
      · right; rw [decide_eq_true h2, ZM]; exact ⟨_, rfl, .inl ⟨k, rfl, List.any_eq_true.2 ⟨l[k], List.getElem_mem h, decide_eq_true h2⟩⟩⟩
      · left; rw [decide_eq_false h2, ZK, ZFa (by omega) (by omega), Ze]; refine ⟨_, rfl, ⟨k + 1, by simp, by omega, ?_⟩, by simp; omega⟩; rw [List.take_succ_eq_append_getElem h, List.any_append, ha]; simp only [List.any_cons, List.any_nil, Bool.or_false, Bool.false_or]; exact decide_eq_false h2
    · right; rw [decide_eq_false (by omega), ZK]; rw [List.take_of_length_le (by omega)] at ha; exact ⟨_, rfl, .inr ⟨rfl, ha⟩⟩
  · rintro r (⟨k, rfl, h⟩ | ⟨rfl, h⟩)
    · rw [h]; simp only [Ze]; exact congrArg some (decide_eq_true (by omega))
    · rw [h]; rfl
theorem Zpq (l : List Rat) (hl : l.length ≤ 4611686018427387904) : ZUf l = some (l.all fun x => decide (0 < x)) := by
  unfold ZUf; rw [Zsq l hl, Ze, List.not_any_eq_all_not]; congr 2
  funext x
  rw [Bool.eq_iff_iff]; simp only [Bool.not_eq_true', decide_eq_false_iff_not, decide_eq_true_iff, ZMl]; grind
theorem ZHk (l : List Rat) (hl : l.length ≤ 4611686018427387904) : Z2f l = some (l.any fun x => decide (x < 0)) := by
  unfold Z2f; rw [Zwq l hl, Ze]; congr 2
  funext x
  exact decide_eq_decide.2 Zwl
theorem Zjp (a b c : Rat) : Z7g (a, b, c) = some (decide (0 < a ∧ 0 < b ∧ 0 < c)) := by
  unfold Z7g ZEc; simp only [Ze]; by_cases h1 : 0 < a
  · rw [decide_eq_true (ZSf.2 h1), ZM]; by_cases h2 : 0 < b
    · rw [decide_eq_true (ZSf.2 h2), ZM, Ze]; exact congrArg some (decide_eq_decide.2 (by rw [ZSf]; simp [h1, h2]))
    · rw [decide_eq_false (fun h => h2 (ZSf.1 h)), ZK, Ze, decide_eq_false (fun h => h2 h.2.1)]
  · rw [decide_eq_false (fun h => h1 (ZSf.1 h)), ZK, Ze, decide_eq_false (fun h => h1 h.1)]
theorem ZCi (a b c : Rat) : Z5e (a, b, c) = some (decide (0 < a ∧ 0 < b ∧ 0 < c)) := by
  unfold Z5e; rw [Zpq _ (by simp), Ze]; congr 1; rw [Bool.eq_iff_iff]; simp
theorem drum_eq (d : (Int × Int) × (Int × Int) × (Int × Int)) : Zxf d = some ((Zhb d.1, Zhb d.2.1, Zhb d.2.2), (Zhb d.1, Zhb d.2.1, Zhb d.2.2)) := by
  unfold Zxf Zpc ZSc; simp only [Ze]
theorem ZJj {k m : Nat} {x y : Rat} (h : sz k x) (h' : sz m y) (hk : k + m ≤ 1000000000) (hy : y ≠ 0) : Zoe x y = some (x / y) := by
  unfold Zoe; rw [qdiv_ok h h' hk hy, Ze]
theorem Zuk (n : Int) : Znc n = some (n : Rat) := by unfold Znc Zrd; rw [Ze]
theorem Zeo {k : Nat} {a b c x y : Rat} (ha : sz k a) (hb : sz k b) (hx : sz k x) (hy : sz k y) (hk : k ≤ 10000000) (p : 0 < a ∧ 0 < b ∧ 0 < c) : Zpe (a, b, c) x y = some ((x - y) * (((1 : Int) : Rat) + b / a), 0) := by
  unfold Zpe; have hne : a ≠ 0 := by grind
  have s1 := Z1c hx hy; have s2 := Zlf hb ha; have s3 := Zhd (Zzd (n := 1) (by omega)) s2; simp only; rw [ZCi, Ze, decide_eq_true p]; simp only [Bool.not_true, ZK]; rw [Zrh hx hy (by omega), Ze, Zuk, Ze, ZJj hb ha (by omega) hne, Ze, Zbj (Zzd (n := 1) (by omega)) s2 (by omega), Ze, ZXj s1 s3 (by omega), Ze]
theorem Ztq {k : Nat} {a b c x y : Rat} (ha : sz k a) (hx : sz k x) (hy : sz k y) (hk : k ≤ 10000000) (p : 0 < a ∧ 0 < b ∧ 0 < c) : ZCe (a, b, c) x y = some ((x - y) / a, 0) := by
  unfold ZCe; have hne : a ≠ 0 := by grind
  have s1 := Z1c hx hy; simp only; rw [ZCi, Ze, decide_eq_true p]; simp only [Bool.not_true, ZK]; rw [Zrh hx hy (by omega), Ze, ZJj s1 ha (by omega) hne, Ze]
noncomputable def Zvf  : Option (Rat) :=
 bnd (Zzc ((1 : Int))) fun a =>
 some a
def ent (t : List (List Int)) (i k : Nat) : Int := (t.getD i []).getD k 0
def upd (l : List Int) (i : Nat) (x : Int) : List Int := l.set i (l.getD i 0 + x)
theorem Zhk {α : Type} {l : List α} {i : Nat} {d : α} (h : i < l.length) : l.getD i d = l[i] := by rw [List.getD_eq_getElem?_getD, List.getElem?_eq_getElem h]; rfl
def rcF (t : List (List Int)) (i k : Nat) (p : List Int × List Int) : List Int × List Int := (upd p.1 i (ent t i k), upd p.2 k (ent t i k))
def RC (n : Nat) (B : Int) (p : List Int × List Int) : Prop := p.1.length = n ∧ p.2.length = n ∧ (∀ x ∈ p.1, 0 ≤ x ∧ x ≤ B) ∧ (∀ x ∈ p.2, 0 ≤ x ∧ x ≤ B)
theorem RC.at1 {n : Nat} {B : Int} {p : List Int × List Int} (h : RC n B p) {i : Nat} (hi : i < n) : ∃ hh : i < p.1.length, 0 ≤ p.1[i] ∧ p.1[i] ≤ B ∧ p.1.getD i 0 = p.1[i] := by
  have h1 : i < p.1.length := by rw [h.1]; exact hi
  exact ⟨h1, (h.2.2.1 _ (List.getElem_mem h1)).1, (h.2.2.1 _ (List.getElem_mem h1)).2, Zhk h1⟩
theorem RC.at2 {n : Nat} {B : Int} {p : List Int × List Int} (h : RC n B p) {i : Nat} (hi : i < n) : ∃ hh : i < p.2.length, 0 ≤ p.2[i] ∧ p.2[i] ≤ B ∧ p.2.getD i 0 = p.2[i] := by
  have h1 : i < p.2.length := by rw [h.2.1]; exact hi
  exact ⟨h1, (h.2.2.2 _ (List.getElem_mem h1)).1, (h.2.2.2 _ (List.getElem_mem h1)).2, Zhk h1⟩
theorem ZGk {l : List Int} {i : Nat} {x B : Int} (hx : 0 ≤ x ∧ x ≤ 1000000) (hi : i < l.length) (h : ∀ y ∈ l, 0 ≤ y ∧ y ≤ B) : ∀ y ∈ upd l i x, 0 ≤ y ∧ y ≤ B + 1000000 := by
  intro y hy; unfold upd at hy; have h2 := h _ (List.getElem_mem hi); rcases List.mem_or_eq_of_mem_set hy with h1 | h1
  · have := h y h1; omega
  · rw [Zhk hi] at h1; omega
structure Good (t : List (List Int)) : Prop where
  n0 : 0 < t.length
  n8 : t.length ≤ 8
  sq : ∀ i, (h : i < t.length) → t[i].length = t.length
  ok : ∀ i k, i < t.length → k < t.length → 0 ≤ ent t i k ∧ ent t i k ≤ 1000000
theorem RC.step {t : List (List Int)} (g : Good t) {B : Int} {p : List Int × List Int} {i k : Nat} (hi : i < t.length) (hk : k < t.length) (h : RC t.length B p) : RC t.length (B + 1000000) (rcF t i k p) :=
  ⟨by simp [rcF, upd, h.1], by simp [rcF, upd, h.2.1], ZGk (g.ok i k hi hk) (by rw [h.1]; exact hi) h.2.2.1, ZGk (g.ok i k hi hk) (by rw [h.2.1]; exact hk) h.2.2.2⟩
theorem RC.mono {n : Nat} {B C : Int} {p : List Int × List Int} (h : RC n B p) (hB : B ≤ C) : RC n C p :=
  ⟨h.1, h.2.1, fun x hx => by have := h.2.2.1 x hx; omega, fun x hx => by have := h.2.2.2 x hx; omega⟩
def pqF (t : List (List Int)) (w : Nat → Nat → Rat) (p : List Int × List Int) (i k : Nat) (s : Rat × Rat) : Rat × Rat :=
  (s.1 + w i k * ((ent t i k : Int) : Rat), s.2 + w i k * ((p.1.getD i 0 : Int) : Rat) * ((p.2.getD k 0 : Int) : Rat))
def SZ (k : Nat) (s : Rat × Rat) : Prop := sz k s.1 ∧ sz k s.2
theorem SZ.mono {k m : Nat} {s : Rat × Rat} (h : SZ k s) (hk : k ≤ m) : SZ m s := ⟨h.1.mono hk, h.2.mono hk⟩
section
variable {t : List (List Int)} {w : Nat → Nat → Rat} {p : List Int × List Int}
theorem SZ.step (g : Good t) (hw : ∀ i k, i < t.length → k < t.length → sz 200 (w i k)) (hp : RC t.length 64000000 p) {i k c : Nat} {s : Rat × Rat} (hi : i < t.length) (hk : k < t.length) (h : SZ c s) : SZ (c + 400) (pqF t w p i k s) := by
  have e := g.ok i k hi hk; obtain ⟨_, a1, a2, a3⟩ := hp.at1 hi; obtain ⟨_, b1, b2, b3⟩ := hp.at2 hk; refine ⟨(Zhd h.1 (ZAe (hw i k hi hk) (Zzd (n := ent t i k) (by omega)))).mono (by omega), (Zhd h.2 (ZAe (ZAe (hw i k hi hk) (Zzd (n := p.1.getD i 0) (by omega))) (Zzd (n := p.2.getD k 0) (by omega)))).mono (by omega)⟩
end
set_option maxRecDepth 100000
noncomputable def ZNg (x : Rat) : Option (Rat) :=
 bnd (Zjc x) fun a =>
 bnd (ZMb (!(decide (x.num < 0))) x.num.natAbs a) fun b =>
 some b
noncomputable def ZRg (x : Rat) (y : Rat) : Option (Rat) :=
 bnd (Zjc x) fun a =>
 bnd (Zjc y) fun b =>
 bnd (Z8a x.num.natAbs b) fun c =>
 bnd (Z8a y.num.natAbs a) fun d =>
 ifb ((decide (x.num < 0)) == (decide (y.num < 0)))
 (bnd (Z3f c d) fun e =>
 bnd (Z8a a b) fun f =>
 bnd (ZMb (decide (x.num < 0)) e f) fun g =>
 some g)
 (bnd (Zid c d) fun h =>
 ifb (decide ((0 : Int) ≤ h))
 (bnd (Zrc c d) fun i =>
 bnd (Z8a a b) fun j =>
 bnd (ZMb (decide (x.num < 0)) i j) fun k =>
 some k)
 (bnd (Zrc d c) fun l =>
 bnd (Z8a a b) fun m =>
 bnd (ZMb (decide (y.num < 0)) l m) fun n =>
 some n))
noncomputable def ZHi (x : Rat) (y : Rat) : Option (Rat) :=
 bnd (ZQe y) fun a =>
 bnd (ZNd x a) fun b =>
 some b
noncomputable def Z6i (x : Rat) (y : Rat) : Option (Rat) :=
 bnd (Z8a x.num.natAbs y.num.natAbs) fun a =>
 bnd (Zjc x) fun b =>
 bnd (Zjc y) fun c =>
 bnd (Z8a b c) fun d =>
 bnd (ZMb ((decide (x.num < 0)) != (decide (y.num < 0))) a d) fun e =>
 some e
noncomputable def ZWi (x : Rat) (y : Rat) : Option (Rat × Int) :=
 bnd (ZQd y) fun a =>
 ifb (a)
 (bnd (Zzc ((0 : Int))) fun b =>
 some ((b, (3 : Int))))
 (bnd (Zjc y) fun c =>
 bnd (Z8a x.num.natAbs c) fun d =>
 bnd (Zjc x) fun e =>
 bnd (Z8a e y.num.natAbs) fun f =>
 bnd (ZMb ((decide (x.num < 0)) != (decide (y.num < 0))) d f) fun g =>
 some ((g, (0 : Int))))
noncomputable def ZAh (x : Rat) (y : Rat) : Option (Rat) :=
 bnd (Ztg x y) fun a =>
 some a.1
noncomputable def ZRi (x : Rat) (y : Rat) : Option (Int) :=
 bnd (Zxd x y) fun a =>
 bnd (ZEc a) fun b =>
 some b
noncomputable def Zij (x : Rat) : Option ((List UInt8)) :=
 bnd (Zag x.num.natAbs) fun b =>
 bnd (ifb (decide (x.num < 0))
 (bnd (ZQd x) fun d =>
 some (!(d)))
 (some false))
 (fun (e : Bool) =>
 (bnd (ifb (e)
 (bnd (Zbc ((([45] : List UInt8)) ++ b)) fun j =>
 some (((([45] : List UInt8)) ++ b)))
 (some b))
 (fun (a : (List UInt8)) =>
 (bnd (Zjc x) fun f =>
 bnd (ZDc ([(1 : Int)])) fun g =>
 bnd (Zid f g) fun h =>
 bnd (ifb (decide ((0 : Int) < h))
 (bnd (Zbc (a ++ (([47] : List UInt8)))) fun k =>
 bnd (Zag x.den) fun c =>
 bnd (Zbc (((a ++ (([47] : List UInt8)))) ++ c)) fun l =>
 some ((((a ++ (([47] : List UInt8)))) ++ c)))
 (some a))
 (fun (i : (List UInt8)) =>
 (some i))))))
theorem Zyd {n : Nat} (h : bl n ≤ 1099511627776) : Z5a n := ZIk (by omega)
theorem Z0b {n : Nat} (h : bl n ≤ 1099511627776) : ZJa n := by have := Zyd h; unfold Z5a at this; unfold ZJa; omega
theorem rneg_eq {x : Rat} (h : okQ x) : ZNg x = some (-x) := by
  obtain ⟨h1, h2⟩ := h; unfold ZNg Zjc ZMb; rw [Ze, if_pos ⟨Zyd h1, Zyd h2, x.den_nz⟩, Ze]; congr 1; have e : sgn (!(decide (x.num < 0))) x.num.natAbs = -x.num := by
    unfold sgn; by_cases h : x.num < 0
    · simp [h]; omega
    · simp [h]; omega
  rw [e]; exact Rat.mkRat_self (-x)
theorem Zbp {x z : Rat} (h : ZQe x = some z) : ZNg x = some z := by
  unfold ZQe at h; split at h
  · rename_i hh; rw [rneg_eq hh, h]
  · cases h
theorem radd_eq {x y : Rat} (h : smQ x) (h' : smQ y) : ZRg x y = some (x + y) := by
  obtain ⟨a1, a2⟩ := h; obtain ⟨b1, b2⟩ := h'; unfold ZRg Zjc; have p1 := Zub x.num.natAbs y.den; have p2 := Zub y.num.natAbs x.den; have p3 := Zub x.den y.den; have p4 := Zsi (x.num.natAbs * y.den) (y.num.natAbs * x.den); have hd : x.den * y.den ≠ 0 := Nat.mul_ne_zero x.den_nz y.den_nz; have e1 : Z8a x.num.natAbs y.den = some (x.num.natAbs * y.den) := by unfold Z8a; rw [if_pos ⟨Z0b (by omega), Z0b (by omega)⟩]
  have e2 : Z8a y.num.natAbs x.den = some (y.num.natAbs * x.den) := by unfold Z8a; rw [if_pos ⟨Z0b (by omega), Z0b (by omega)⟩]
  have e3 : Z8a x.den y.den = some (x.den * y.den) := by unfold Z8a; rw [if_pos ⟨Z0b (by omega), Z0b (by omega)⟩]
  have eN : ((x.num.natAbs * y.den : Nat) : Int) = (x.num.natAbs : Int) * y.den := by simp
  have eM : ((y.num.natAbs * x.den : Nat) : Int) = (y.num.natAbs : Int) * x.den := by simp
  have key : ∀ (s : Bool) (n : Nat), bl n ≤ 1099511627776 → sgn s n = x.num * y.den + y.num * x.den → ZMb s n (x.den * y.den) = some (x + y) := by
    intro s n hn he; unfold ZMb; rw [if_pos ⟨Zyd hn, Zyd (by omega), hd⟩, he, ← Rat.add_def']
  rw [Ze, Ze, e1, Ze, e2, Ze, e3]; obtain ⟨N, hN⟩ : ∃ N, N = x.num.natAbs * y.den := ⟨_, rfl⟩; obtain ⟨M, hM⟩ : ∃ M, M = y.num.natAbs * x.den := ⟨_, rfl⟩; rw [← hN] at p1 p4 eN ⊢; rw [← hM] at p2 p4 eM ⊢; have sx : x.num * (y.den : Int) = if x.num < 0 then -(N : Int) else N := by
    split
    · rw [eN, ← Int.neg_mul]; congr 1; omega
    · rw [eN]; congr 1; omega
  have sy : y.num * (x.den : Int) = if y.num < 0 then -(M : Int) else M := by
    split
    · rw [eM, ← Int.neg_mul]; congr 1; omega
    · rw [eM]; congr 1; omega
  by_cases hs : (x.num < 0) ↔ (y.num < 0)
  · have e4 : Z3f N M = some (N + M) := by unfold Z3f; rw [if_pos ⟨Z0b (by omega), Z0b (by omega)⟩]
    have e5 : ((decide (x.num < 0)) == (decide (y.num < 0))) = true := by
      by_cases h : x.num < 0
      · simp [h, hs.1 h]
      · have h2 : ¬ y.num < 0 := fun k => h (hs.2 k); simp [h, h2]
    rw [e5, ZM, e4, Ze, Ze, key _ _ (by omega) ?_, Ze]; rw [sx, sy]; unfold sgn; by_cases h : x.num < 0
    · have h2 := hs.1 h; simp [h, h2]; omega
    · have h2 : ¬ y.num < 0 := fun k => h (hs.2 k); simp [h, h2]
  · have e5 : ((decide (x.num < 0)) == (decide (y.num < 0))) = false := by
      apply beq_false_of_ne; intro h; exact hs (by by_cases k : x.num < 0 <;> by_cases k2 : y.num < 0 <;> simp_all)
    rw [e5, ZK]; unfold Zid; rw [Ze]; by_cases hle : M ≤ N
    · have e6 : decide ((0 : Int) ≤ Z6a N M) = true := by
        unfold Z6a; rw [if_neg (by omega)]; split <;> rfl
      have e4 : Zrc N M = some (N - M) := by unfold Zrc; rw [if_pos ⟨Z0b (by omega), hle⟩]
      have hb : bl (N - M) ≤ bl N := Zfd (by omega); rw [e6, ZM, e4, Ze, Ze, key _ _ (by omega) ?_, Ze]; rw [sx, sy]; unfold sgn; by_cases h : x.num < 0
      · have h2 : ¬ y.num < 0 := fun k => hs ⟨fun _ => k, fun _ => h⟩; simp [h, h2]; omega
      · have h2 : y.num < 0 := by
          rcases Int.lt_or_le y.num 0 with k | k
          · exact k
          · exact absurd ⟨fun q => absurd q h, fun q => absurd q (by omega)⟩ hs
        simp [h, h2]; omega
    · have e6 : decide ((0 : Int) ≤ Z6a N M) = false := by
        unfold Z6a; rw [if_pos (by omega)]; rfl
      have e4 : Zrc M N = some (M - N) := by unfold Zrc; rw [if_pos ⟨Z0b (by omega), by omega⟩]
      have hb : bl (M - N) ≤ bl M := Zfd (by omega); rw [e6, ZK, e4, Ze, Ze, key _ _ (by omega) ?_, Ze]; rw [sx, sy]; unfold sgn; by_cases h : x.num < 0
      · have h2 : ¬ y.num < 0 := fun k => hs ⟨fun _ => k, fun _ => h⟩; simp [h, h2]; omega
      · have h2 : y.num < 0 := by
          rcases Int.lt_or_le y.num 0 with k | k
          · exact k
          · exact absurd ⟨fun q => absurd q h, fun q => absurd q (by omega)⟩ hs
        simp [h, h2]; omega
theorem Zfo {x y z : Rat} (h : ZNd x y = some z) : ZRg x y = some z := by
  unfold ZNd at h; split at h
  · rename_i hh; rw [radd_eq hh.1 hh.2, h]
  · cases h
theorem smQ_neg {x : Rat} (h : smQ x) : smQ (-x) := by
  unfold smQ at *; have := ZGi x; rw [this.1, this.2]; exact h
theorem smQ_ok {x : Rat} (h : smQ x) : okQ x := by unfold smQ at h; unfold okQ; omega
theorem ZYn {x y z : Rat} (h : Zxd x y = some z) : ZHi x y = some z := by
  unfold Zxd at h; split at h
  · rename_i hh; unfold ZHi ZQe ZNd; rw [if_pos (smQ_ok hh.2), Ze, if_pos ⟨hh.1, smQ_neg hh.2⟩, Ze, ← Rat.sub_eq_add_neg]; exact h
  · cases h
theorem ZPp {x y z : Rat} (h : Zxe x y = some z) : Z6i x y = some z := by
  unfold Zxe at h; split at h
  · rename_i hh; obtain ⟨⟨a1, a2⟩, b1, b2⟩ := hh
    cases h
    unfold Z6i Zjc; have p1 := Zub x.num.natAbs y.num.natAbs; have p3 := Zub x.den y.den; have e1 : Z8a x.num.natAbs y.num.natAbs = some (x.num.natAbs * y.num.natAbs) := by unfold Z8a; rw [if_pos ⟨Z0b (by omega), Z0b (by omega)⟩]
    have e3 : Z8a x.den y.den = some (x.den * y.den) := by unfold Z8a; rw [if_pos ⟨Z0b (by omega), Z0b (by omega)⟩]
    rw [e1, Ze, Ze, Ze, e3, Ze]; unfold ZMb; rw [if_pos ⟨Zyd (by omega), Zyd (by omega), Nat.mul_ne_zero x.den_nz y.den_nz⟩, Ze]; have e : sgn ((decide (x.num < 0)) != (decide (y.num < 0))) (x.num.natAbs * y.num.natAbs) = x.num * y.num := by
      have eN : ((x.num.natAbs * y.num.natAbs : Nat) : Int) = (x.num.natAbs : Int) * y.num.natAbs := by simp
      unfold sgn; rw [eN]; by_cases h : x.num < 0
      · have hx : (x.num.natAbs : Int) = -x.num := by omega
        by_cases h2 : y.num < 0
        · have hy : (y.num.natAbs : Int) = -y.num := by omega
          simp [h, h2, hx, hy, Int.neg_mul, Int.mul_neg]
        · have hy : (y.num.natAbs : Int) = y.num := by omega
          simp [h, h2, hx, hy, Int.neg_mul, Int.mul_neg]
      · have hx : (x.num.natAbs : Int) = x.num := by omega
        by_cases h2 : y.num < 0
        · have hy : (y.num.natAbs : Int) = -y.num := by omega
          simp [h, h2, hx, hy, Int.neg_mul, Int.mul_neg]
        · have hy : (y.num.natAbs : Int) = y.num := by omega
          simp [h, h2, hx, hy, Int.neg_mul, Int.mul_neg]
    rw [e, ← Rat.mul_def']
  · cases h
theorem ZAo {x y : Rat} {z : Rat × Int} (h : Ztg x y = some z) : ZWi x y = some z := by
  unfold Ztg at h; split at h
  · rename_i hh; obtain ⟨⟨a1, a2⟩, b1, b2⟩ := hh
    cases h
    unfold ZWi ZQd; rw [Ze]; by_cases h0 : y = 0
    · subst h0; rfl
    · rw [decide_eq_false h0, ZK, if_neg h0]; unfold Zjc; have hn := ZPi h0; have p1 := Zub x.num.natAbs y.den; have p3 := Zub x.den y.num.natAbs; have e1 : Z8a x.num.natAbs y.den = some (x.num.natAbs * y.den) := by unfold Z8a; rw [if_pos ⟨Z0b (by omega), Z0b (by omega)⟩]
      have e3 : Z8a x.den y.num.natAbs = some (x.den * y.num.natAbs) := by unfold Z8a; rw [if_pos ⟨Z0b (by omega), Z0b (by omega)⟩]
      rw [Ze, e1, Ze, Ze, e3, Ze]; unfold ZMb; rw [if_pos ⟨Zyd (by omega), Zyd (by omega), Nat.mul_ne_zero x.den_nz (by omega)⟩, Ze]; have e : sgn ((decide (x.num < 0)) != (decide (y.num < 0))) (x.num.natAbs * y.den) = if y.num < 0 then -(x.num * (y.den : Int)) else x.num * (y.den : Int) := by
        have eN : ((x.num.natAbs * y.den : Nat) : Int) = (x.num.natAbs : Int) * y.den := by simp
        unfold sgn; rw [eN]; by_cases h : x.num < 0
        · have hx : (x.num.natAbs : Int) = -x.num := by omega
          by_cases h2 : y.num < 0 <;> simp [h, h2, hx, Int.neg_mul]
        · have hx : (x.num.natAbs : Int) = x.num := by omega
          by_cases h2 : y.num < 0 <;> simp [h, h2, hx, Int.neg_mul]
      rw [e, ← Zgk h0]
  · cases h
theorem rbyF_eq {x y z : Rat} (h : ZYe x y = some z) : ZAh x y = some z := by
  unfold ZYe at h; split at h
  · rename_i hh
    cases h
    unfold ZAh Ztg; rw [if_pos hh, Ze]; split <;> rfl
  · cases h
theorem Zzp {x y : Rat} {z : Int} (h : ZYf x y = some z) : ZRi x y = some z := by
  unfold ZYf at h; split at h
  · rename_i hh
    cases h
    unfold ZRi Zxd ZEc; rw [if_pos hh, Ze, Ze]
  · cases h
theorem ZWp {x : Rat} {z : List UInt8} (h : Zoh x = some z) : Zij x = some z := by
  unfold Zoh at h; split at h
  · rename_i hh; obtain ⟨h1, h2⟩ := hh
    cases h
    unfold Zij Zag; have l1 := Zki (n := x.num.natAbs) (by omega); have l2 := Zki (n := x.den) (by omega); rw [if_pos (Zyd h1), Ze]; have e0 : ifb (decide (x.num < 0)) (bnd (ZQd x) fun y136 => some (!(y136))) (some false) = some (decide (x.num < 0)) := by
      unfold ZQd; by_cases h : x.num < 0
      · have : x ≠ 0 := fun e => by subst e; simp at h
        rw [decide_eq_true h, ZM, Ze, decide_eq_false this]; rfl
      · rw [decide_eq_false h, ZK]
    rw [e0, Ze]; have e1 : ifb (decide (x.num < 0)) (bnd (Zbc ([45] ++ Zqb x.num.natAbs)) fun y80 => some (([45] : List UInt8) ++ Zqb x.num.natAbs)) (some (Zqb x.num.natAbs)) = some ((if x.num < 0 then [45] else []) ++ Zqb x.num.natAbs) := by
      by_cases h : x.num < 0
      · rw [decide_eq_true h, ZM, Z2d (by simp; omega), Ze, if_pos h]
      · rw [decide_eq_false h, ZK, if_neg h]; rfl
    rw [e1, Ze]; unfold txtQ Zjc Zid; have l3 : ((if x.num < 0 then [45] else []) ++ Zqb x.num.natAbs : List UInt8).length ≤ 4398046511105 := by
      rw [List.length_append]; split <;> simp <;> omega
    generalize ((if x.num < 0 then [45] else []) ++ Zqb x.num.natAbs : List UInt8) = s at *; rw [Ze, ZSj, Ze, Ze, Zel]; by_cases hd : x.den = 1
    · rw [hd]; simp [ifb, bnd]
    · have := x.den_nz; rw [decide_eq_true (by omega), ZM, Z2d (by simp; omega), Ze, if_pos (Zyd h2), Ze, Z2d (by simp; omega), Ze, Ze, if_neg hd]; simp
  · cases h
noncomputable def Zqf (x : Rat) (y : Rat) : Option (Bool) :=
 bnd (Z0d x) fun a =>
 bnd (Zoh y) fun b =>
 some (a == b)
set_option maxRecDepth 100000
theorem ZNj {k m : Nat} {x y : Rat} (h : sz k x) (h' : sz m y) (hk : k + m ≤ 1000000000) : ZNd x y = some (x + y) := by unfold ZNd; rw [if_pos ⟨h.sm (by omega), h'.sm (by omega)⟩]
theorem ZYh {k m : Nat} {x y : Rat} (h : sz k x) (h' : sz m y) (hk : k + m ≤ 1000000000) : Zxd x y = some (x - y) := by unfold Zxd; rw [if_pos ⟨h.sm (by omega), h'.sm (by omega)⟩]
theorem Zpj {k m : Nat} {x y : Rat} (h : sz k x) (h' : sz m y) (hk : k + m ≤ 1000000000) : Zxe x y = some (x * y) := by unfold Zxe; rw [if_pos ⟨h.sm (by omega), h'.sm (by omega)⟩]
theorem ZQj {k m : Nat} {x y : Rat} (h : sz k x) (h' : sz m y) (hk : k + m ≤ 1000000000) (hy : y ≠ 0) : ZYe x y = some (x / y) := by unfold ZYe; rw [if_pos ⟨h.sm (by omega), h'.sm (by omega)⟩, if_neg hy]
theorem rcmp_ok {k m : Nat} {x y : Rat} (h : sz k x) (h' : sz m y) (hk : k + m ≤ 1000000000) : ZYf x y = some (x - y).num.sign := by unfold ZYf; rw [if_pos ⟨h.sm (by omega), h'.sm (by omega)⟩]
theorem Z3j {k : Nat} {x : Rat} (h : sz k x) (hk : k ≤ 1000000000) : Zqf x x = some true := by
  unfold Zqf Z0d Zoh; rw [if_pos (h.ok (by omega)), Ze, Ze]; simp
theorem ZMk : Zvf = some (1 : Rat) := by unfold Zvf Zzc; rw [Ze]; rfl
theorem ZVg : sz 1 (1 : Rat) := by constructor <;> decide
noncomputable def Zze (d : (Rat × Rat × Rat)) (x : Rat) (y : Rat) (t : Rat) : Option (Rat × Int) :=
 bnd (bnd (Z5e ((d.1, d.2.1, d.2.2))) fun a =>
 ifb (!(a))
 (some true)
 (bnd (Z2f ([t])) fun b =>
 some b))
 (fun (c : Bool) =>
 (ifb (c)
 (some (((0 : Rat), (1 : Int))))
 (bnd (Zoe x d.2.2) fun e =>
 bnd (Znc ((1 : Int))) fun f =>
 bnd (Znc ((25 : Int))) fun g =>
 bnd (Z6b y g) fun h =>
 bnd (Z4b t h) fun i =>
 bnd (Zec f i) fun j =>
 bnd (Z4b e j) fun k =>
 some ((k, (0 : Int))))))
noncomputable def ZXg (d : (Rat × Rat × Rat)) (x : Rat) (y : Rat) (t : Rat) : Option (Rat) :=
 bnd (bnd (Zvf ) fun a =>
 bnd (Zzc ((25 : Int))) fun b =>
 bnd (Zxd y b) fun c =>
 bnd (Zxe t c) fun e =>
 bnd (ZNd a e) fun f =>
 some f)
 (fun (g : Rat) =>
 (bnd (ZYe x d.2.2) fun h =>
 bnd (Zxe h g) fun i =>
 some i))
noncomputable def Z0g (d : (Rat × Rat × Rat)) (x : Rat) (y : Rat) : Option (Rat) :=
 bnd (Zxd x y) fun a =>
 bnd (Zvf ) fun b =>
 bnd (ZYe d.2.1 d.1) fun c =>
 bnd (ZNd b c) fun e =>
 bnd (Zxe a e) fun f =>
 some f
noncomputable def Zvg (d : (Rat × Rat × Rat)) (x : Rat) (y : Rat) : Option (Rat) :=
 bnd (Zxd x y) fun a =>
 bnd (ZYe a d.1) fun b =>
 some b
noncomputable def Zdj (d : ((Int × Int) × (Int × Int) × (Int × Int))) (x : (Int × Int)) (y : (Int × Int)) (t : (Int × Int)) : Option (Bool) :=
 bnd (Zxf (((d.1.1, d.1.2), (d.2.1.1, d.2.1.2), (d.2.2.1, d.2.2.2)))) fun a =>
 bnd (Zpc ((x.1, x.2))) fun e =>
 bnd (Zpc ((y.1, y.2))) fun f =>
 bnd (Zpc ((t.1, t.2))) fun m =>
 bnd (ZSc ((x.1, x.2))) fun g =>
 bnd (ZSc ((y.1, y.2))) fun c =>
 bnd (ZSc ((t.1, t.2))) fun k =>
 bnd (Zpe ((a.1.1, a.1.2.1, a.1.2.2)) e f) fun h =>
 bnd (ZCe ((a.1.1, a.1.2.1, a.1.2.2)) e f) fun i =>
 bnd (Zze ((a.1.1, a.1.2.1, a.1.2.2)) e f m) fun b =>
 bnd (Zpc ((d.1.1, d.1.2))) fun n =>
 bnd (Zug e f m n) fun j =>
 bnd (ZEc c) fun o =>
 bnd (ZEc a.2.1) fun q =>
 bnd (Zxd g k) fun l =>
 bnd (ZEc l) fun r =>
 bnd (ifb (decide (r < (0 : Int)))
 (bnd (ZQe l) fun s =>
 some s)
 (some l))
 (fun (u : Rat) =>
 (bnd (ifb (decide (o < (0 : Int)))
 (some true)
 (some (decide (q < (0 : Int)))))
 (fun (v : Bool) =>
 (bnd (ifb (v)
 (bnd (ifb (j.2 != ((1 : Int)))
 (some true)
 (some j.1))
 (fun (w : Bool) =>
 (ifb (w)
 (some ((.inl false)))
 (some ((.inr (())))))))
 (bnd (ifb (j.2 != ((0 : Int)))
 (some true)
 (bnd (ZNd c a.2.1) fun z =>
 bnd (ZYf u z) fun A =>
 some (j.1 != (decide (A ≤ (0 : Int))))))
 (fun (B : Bool) =>
 (ifb (B)
 (some ((.inl false)))
 (some ((.inr (()))))))))
 (fun (p : (Bool) ⊕ (Unit)) => match p with
 | .inl C =>
 (some C)
 | .inr (()) =>
 (bnd (Z7g ((a.2.1, a.2.2.1, a.2.2.2))) fun D =>
 ifb (!(D))
 (bnd (ifb (h.2 == ((1 : Int)))
 (ifb (i.2 == ((1 : Int)))
 (ifb (b.2 == ((1 : Int)))
 (bnd (ZDd h.1) fun E =>
 ifb (E)
 (bnd (ZDd i.1) fun F =>
 ifb (F)
 (bnd (ZDd b.1) fun G =>
 ifb (G)
 (bnd (Z3e ) fun H =>
 some H)
 (some false))
 (some false))
 (some false))
 (some false))
 (some false))
 (some false))
 (fun (I : Bool) =>
 (some I)))
 (bnd (ifb (h.2 != ((0 : Int)))
 (some true)
 (ifb (i.2 != ((0 : Int)))
 (some true)
 (bnd (Z0g ((a.2.1, a.2.2.1, a.2.2.2)) g c) fun J =>
 bnd (Zqf h.1 J) fun K =>
 ifb (!(K))
 (some true)
 (bnd (Zvg ((a.2.1, a.2.2.1, a.2.2.2)) g c) fun L =>
 bnd (Zqf i.1 L) fun M =>
 some (!(M))))))
 (fun (N : Bool) =>
 (ifb (N)
 (some false)
 (bnd (ZEc k) fun O =>
 ifb (decide (O < (0 : Int)))
 (bnd (ifb (b.2 == ((1 : Int)))
 (bnd (ZDd b.1) fun P =>
 ifb (P)
 (bnd (Z3e ) fun Q =>
 some Q)
 (some false))
 (some false))
 (fun (R : Bool) =>
 (some R)))
 (bnd (ifb (b.2 == ((0 : Int)))
 (bnd (ZXg ((a.2.1, a.2.2.1, a.2.2.2)) g c k) fun S =>
 bnd (Zqf b.1 S) fun T =>
 ifb (T)
 (bnd (Z3e ) fun U =>
 some U)
 (some false))
 (some false))
 (fun (V : Bool) =>
 (some V)))))))))))))
set_option maxRecDepth 100000
theorem Zbk {x y : Rat} : decide ((x - y).num.sign ≤ 0) = decide (x ≤ y) := decide_eq_decide.2 (by rw [ZMl]; constructor <;> intro h <;> grind)
theorem ZXh {x : Rat} : decide (x.num.sign < 0) = decide (x < 0) := decide_eq_decide.2 Zwl
theorem ZVn {a b c : Rat} (p : ¬ (0 < a ∧ 0 < b ∧ 0 < c)) (x y t : Rat) : Zpe (a, b, c) x y = some (0, 1) ∧ ZCe (a, b, c) x y = some (0, 1) ∧ Zze (a, b, c) x y t = some (0, 1) := by
  unfold Zpe ZCe Zze; simp only; rw [ZCi, decide_eq_false p]; simp only [Ze, Bool.not_false, ZM, and_self]
def coF (c x y t : Rat) : Rat := x / c * (1 + t * (y - 25))
def agF (x u y v : Rat) : Bool := decide (x - u ≤ y + v) && decide (y - v ≤ x + u)
theorem c25 : ((25 : Int) : Rat) = 25 := rfl
theorem c1 : ((1 : Int) : Rat) = 1 := rfl
section
variable {a b c x y t : Rat}
theorem co_sz (hc : sz 64 c) (hx : sz 64 x) (hy : sz 64 y) (ht : sz 64 t) : sz 1000 (coF c x y t) := by
  unfold coF; have s25 := Zzd (n := 25) (by omega); rw [← c25]; exact (ZAe (Zlf hx hc) (Zhd ZVg (ZAe ht (Z1c hy s25)))).mono (by omega)
theorem Z4o (hc : sz 64 c) (hx : sz 64 x) (hy : sz 64 y) (ht : sz 64 t) (p : 0 < a ∧ 0 < b ∧ 0 < c) : Zze (a, b, c) x y t = some (if t < 0 then (0, 1) else (coF c x y t, 0)) := by
  unfold Zze; have hne : c ≠ 0 := by grind
  simp only; rw [ZCi, Ze, decide_eq_true p]; simp only [Bool.not_true, ZK]; rw [ZHk _ (by simp)]; simp only [Ze, List.any_cons, List.any_nil, Bool.or_false]; by_cases h : t < 0
  · rw [decide_eq_true h, ZM, if_pos h]
  · have s25 := Zzd (n := 25) (by omega); have s1 := Zzd (n := 1) (by omega); have z1 := Zlf hx hc; have z2 := Z1c hy s25; have z3 := ZAe ht z2; have z4 := Zhd s1 z3; rw [decide_eq_false h, ZK, if_neg h, ZJj hx hc (by omega) hne, Ze, Zuk, Ze, Zuk, Ze, Zrh hy s25 (by omega), Ze, ZXj ht z2 (by omega), Ze, Zbj s1 z3 (by omega), Ze, ZXj z1 z4 (by omega), Ze]; rfl
theorem ZBn (hc : sz 64 c) (hx : sz 64 x) (hy : sz 64 y) (ht : sz 64 t) (p : 0 < a ∧ 0 < b ∧ 0 < c) : ZXg (a, b, c) x y t = some (coF c x y t) := by
  unfold ZXg; have hne : c ≠ 0 := by grind
  have s25 := Zzd (n := 25) (by omega); have r25 : Zzc (25 : Int) = some ((25 : Int) : Rat) := rfl; have z1 := Zlf hx hc; have z2 := Z1c hy s25; have z3 := ZAe ht z2; have z4 := Zhd ZVg z3; simp only; rw [ZMk, r25]; simp only [Ze]; rw [ZYh hy s25 (by omega), Ze, Zpj ht z2 (by omega), Ze, ZNj ZVg z3 (by omega), Ze, Ze, ZQj hx hc (by omega) hne, Ze, Zpj z1 z4 (by omega), Ze]; rfl
theorem Zqp (ha : sz 64 a) (hb : sz 64 b) (hx : sz 64 x) (hy : sz 64 y) (p : 0 < a ∧ 0 < b ∧ 0 < c) : Z0g (a, b, c) x y = some ((x - y) * (((1 : Int) : Rat) + b / a)) := by
  unfold Z0g; have hne : a ≠ 0 := by grind
  have z1 := Z1c hx hy; have z2 := Zlf hb ha; have z3 := Zhd ZVg z2; simp only; rw [ZYh hx hy (by omega), Ze, ZMk, Ze, ZQj hb ha (by omega) hne, Ze, ZNj ZVg z2 (by omega), Ze, Zpj z1 z3 (by omega), Ze]; rfl
theorem ZCn (ha : sz 64 a) (hx : sz 64 x) (hy : sz 64 y) (p : 0 < a ∧ 0 < b ∧ 0 < c) : Zvg (a, b, c) x y = some ((x - y) / a) := by
  unfold Zvg; have hne : a ≠ 0 := by grind
  simp only; rw [ZYh hx hy (by omega), Ze, ZQj (Z1c hx hy) ha (by omega) hne, Ze]
theorem Zpn {u v : Rat} (hx : sz 64 x) (hu : sz 64 u) (hy : sz 64 y) (hv : sz 64 v) : Zug x u y v = some (if u < 0 ∨ v < 0 then (false, 1) else (agF x u y v, 0)) := by
  unfold Zug agF; have e1 : ([u, v].any fun x => decide (x < 0)) = decide (u < 0 ∨ v < 0) := by
    rw [Bool.eq_iff_iff]; simp
  have s1 := Z1c hx hu; have s2 := Zhd hy hv; have s3 := Z1c hy hv; have s4 := Zhd hx hu; rw [ZHk _ (by simp), Ze, e1]; by_cases h : u < 0 ∨ v < 0
  · rw [decide_eq_true h, ZM, if_pos h]
  · rw [decide_eq_false h, ZK, if_neg h, Zrh hx hu (by omega), Ze, Zbj hy hv (by omega), Ze, ZHl s1 s2 (by omega), Ze, Zbk]; by_cases h1 : x - u ≤ y + v
    · rw [decide_eq_true h1, ZM, Zrh hy hv (by omega), Ze, Zbj hx hu (by omega), Ze, ZHl s3 s4 (by omega), Ze, Zbk, Ze, Bool.true_and]
    · rw [decide_eq_false h1, ZK, Ze, Bool.false_and]
end
theorem Z8m (d : (Int × Int) × (Int × Int) × (Int × Int)) (x y t : Int × Int) (h1 : i64 d.1) (h2 : i64 d.2.1) (h3 : i64 d.2.2) (hx : i64 x) (hy : i64 y) (ht : i64 t) : Zdj d x y t = some true := by
  unfold Zdj; rw [Z6p, drum_eq, Ze]; unfold Zpc ZSc ZEc; simp only [Ze]; have a1 : sz 64 (Zhb d.1) := ZZf h1; have a2 : sz 64 (Zhb d.2.1) := ZZf h2; have a3 : sz 64 (Zhb d.2.2) := ZZf h3; have b1 : sz 64 (Zhb x) := ZZf hx; have b2 : sz 64 (Zhb y) := ZZf hy; have b3 : sz 64 (Zhb t) := ZZf ht; have e : ∀ q : Int × Int, Zhb (q.1, q.2) = Zhb q := fun _ => rfl; simp only [e]; generalize Zhb d.1 = A at *; generalize Zhb d.2.1 = B at *; generalize Zhb d.2.2 = C at *; generalize Zhb x = X at *; generalize Zhb y = Y at *; generalize Zhb t = T at *; rw [Zpn b1 b2 b3 a1, Zjp]; have zs := Z1c b1 b3; have zn : sz 129 (if X - T < 0 then -(X - T) else X - T) := by
    split
    · exact (sz_neg zs).mono (by omega)
    · exact zs.mono (by omega)
  have zp := Zhd b2 a1; have q0 : ZDd (0 : Rat) = some true := rfl; have n0 : ((0 : Int) != 0) = false := rfl; have n1 : ((1 : Int) != 1) = false := rfl; have ag : agF X Y T A = decide ((if X - T < 0 then -(X - T) else X - T) ≤ Y + A) := by
    unfold agF; rw [Bool.eq_iff_iff]; simp only [Bool.and_eq_true, decide_eq_true_eq]; split <;> constructor <;> intro h <;> grind
  have rest : ∀ {z : Option Bool}, (∀ r f g : Rat × Int, (0 < A ∧ 0 < B ∧ 0 < C → True) → True) → z = z := fun _ => rfl; rw [ZYh b1 b3 (by omega)]; have f1 : ∃ F G H, Zpe (A, B, C) X Y = some F ∧ ZCe (A, B, C) X Y = some G ∧ Zze (A, B, C) X Y T = some H ∧
      (0 < A ∧ 0 < B ∧ 0 < C → F = ((X - Y) * (((1 : Int) : Rat) + B / A), 0) ∧ G = ((X - Y) / A, 0) ∧ H = if T < 0 then (0, 1) else (coF C X Y T, 0)) ∧ (¬ (0 < A ∧ 0 < B ∧ 0 < C) → F = (0, 1) ∧ G = (0, 1) ∧ H = (0, 1)) := by
    by_cases p : 0 < A ∧ 0 < B ∧ 0 < C
    · exact ⟨_, _, _, Zeo a1 a2 b1 b2 (by omega) p, Ztq a1 b1 b2 (by omega) p, Z4o a3 b1 b2 b3 p, fun _ => ⟨rfl, rfl, rfl⟩, fun h => absurd p h⟩
    · obtain ⟨k1, k2, k3⟩ := ZVn p X Y T; exact ⟨_, _, _, k1, k2, k3, fun h => absurd h p, fun _ => ⟨rfl, rfl, rfl⟩⟩
  obtain ⟨F, G, H, g1, g2, g3, g4, g5⟩ := f1; rw [g1, g2, g3]; simp only [Ze]; refine ZEj (y := if X - T < 0 then -(X - T) else X - T) ?_ ?_
  · rw [ZXh]; by_cases h : X - T < 0
    · have : ZQe (X - T) = some (-(X - T)) := by unfold ZQe; rw [if_pos (zs.ok (by omega))]
      rw [decide_eq_true h, ZM, if_pos h, this, Ze]
    · rw [decide_eq_false h, ZK, if_neg h]
  generalize (if X - T < 0 then -(X - T) else X - T) = W at *; refine ZEj (y := decide (Y < 0 ∨ A < 0)) ?_ ?_
  · rw [ZXh, ZXh]; by_cases h : Y < 0
    · rw [decide_eq_true h, ZM, decide_eq_true (.inl h)]
    · rw [decide_eq_false h, ZK, show decide (Y < 0 ∨ A < 0) = decide (A < 0) from decide_eq_decide.2 ⟨fun k => k.resolve_left h, .inr⟩]
  refine ZEj (y := .inr ()) ?_ ?_
  · by_cases h : Y < 0 ∨ A < 0
    · rw [decide_eq_true h, ZM, if_pos h]; simp only [n1, ZK, Ze]
    · rw [decide_eq_false h, ZK, if_neg h]; simp only [n0, ZK]; rw [ZNj b2 a1 (by omega), Ze, rcmp_ok zn zp (by omega), Ze, Zbk, ag, bne_self_eq_false, Ze, ZK]
  simp only; by_cases p : 0 < A ∧ 0 < B ∧ 0 < C
  · obtain ⟨rfl, rfl, rfl⟩ := g4 p; rw [decide_eq_true p, Bool.not_true, ZK]; simp only [n0, ZK]; rw [Zqp a1 a2 b1 b2 p, ZCn a1 b1 b2 p, Ze]; have s1 := ZAe (Z1c b1 b2) (Zhd (Zzd (n := 1) (by omega)) (Zlf a2 a1)); have s2 := Zlf (Z1c b1 b2) a1; rw [Z3j s1 (by omega), Ze]; simp only [Bool.not_true, ZK, Ze]; rw [Z3j s2 (by omega)]; simp only [Bool.not_true, ZK, Ze]; rw [ZXh]; by_cases h : T < 0
    · rw [decide_eq_true h, ZM, if_pos h]; simp only [beq_self_eq_true, ZM, q0, Ze]
    · rw [decide_eq_false h, ZK, if_neg h]; simp only [beq_self_eq_true, ZM]; rw [ZBn a3 b1 b2 b3 p, Ze, Z3j (co_sz a3 b1 b2 b3) (by omega), Ze, ZM, Ze]
  · obtain ⟨rfl, rfl, rfl⟩ := g5 p; rw [decide_eq_false p, Bool.not_false, ZM]; simp only [beq_self_eq_true, ZM, q0, Ze]
theorem ZQf {v : Zd} {c : List Value} {r : Int × Int} (h : Rep.rel (Zt (Za .i64) (Za .i64)) v c r) : i64 r := by
  obtain ⟨c1, c2, _, ⟨_, h1⟩, _, h2⟩ := h; exact ⟨ZVb.1 h1, ZVb.1 h2⟩
end Go.Eng
namespace Go.Eng
open Go.RowKit
theorem Zg {α : Type _} {a b : α} (h : some a = some b) : a = b := Option.some.inj h
theorem Zx (b : Bool) : b = true ∨ b = false := (Bool.eq_false_or_eq_true b)
theorem leT {a b c : Zd} (h : a.le b) (k : b.le c) : a.le c := Zd.le_trans h k
theorem leR (v : Zd) : v.le v := Zd.le_refl v
theorem Zo {P : Program} {Q : Exit → Act → World → Prop} {a : Act} {w : World} {id : Nat} {l : List Oper} (h : wpList P l.toArray Q l a w) : (Code.region id l.toArray false).wp P Q a w := wp_region_lit h
theorem Zh {P : Program} {Q : Exit → Act → World → Prop} {a : Act} {w : World} {x y : Code} (h : ∀ K : Act → World → Prop, (∀ a w, y.wp P Q a w → K a w) → x.wp P (Exit.then K Q) a w) : (Code.seq x y).wp P Q a w := wp_seq_k h
theorem Zp {α : Type} {A : Rep α} {v v' : Zd} {cs : List Value} {x : α} (hv : v.le v') (h : A.rel v cs x) : A.rel v' cs x := A.mono hv h
theorem Zla {α : Type} (A : Rep α) {v : Zd} {cs : List Value} {x : α} (h : A.rel v cs x) : cs.all ZSa = true := A.flat h
theorem Atm {v v' : Zd} {b off : Nat} {cs : List Value} (h : v.le v') (k : At v b off cs) : At v' b off cs := At.mono h k
end Go.Eng
namespace Go.Eng
open Go.Proofs Go.RowKit
theorem ZQm : ZIg Tryz.prog 291 20 1 := ⟨5, fun _ => by kernel_rfl, fun _ => by kernel_rfl⟩
theorem Zrb : ZIg Tryz.prog 51 3 2 := ⟨50, fun _ => by kernel_rfl, fun _ => by kernel_rfl⟩
theorem Zcd : Zqe Tryz.prog 211 212 .u64 .u32 := fun _ _ => by kernel_rfl
theorem ZNk : Zqe Tryz.prog 211 5 .u64 .u8 := fun _ _ => by kernel_rfl
theorem ZQk : Zqe Tryz.prog 212 2 .u32 .i64 := fun _ _ => by kernel_rfl
theorem Zoc : Zqe Tryz.prog 212 211 .u32 .u64 := fun _ _ => by kernel_rfl
theorem Zni : Zqe Tryz.prog 2 211 .i64 .u64 := fun _ _ => by kernel_rfl
theorem Zsp : Zqe Tryz.prog 2 212 .i64 .u32 := fun _ _ => by kernel_rfl
theorem ZLj : Zqe Tryz.prog 3 253 .i64 .u64 := fun _ _ => by kernel_rfl
theorem k_cv5_3 : Zqe Tryz.prog 5 3 .u8 .i64 := fun _ _ => by kernel_rfl
theorem Z3l : Elem Tryz.prog 263 9 1 16 (Value.string (Z2 [])) := ⟨Tryz.underlying263, by kernel_rfl, rfl, by decide⟩
theorem Zqh : Elem Tryz.prog 28 3 1 8 (Value.int IntKind.i64 0) := ⟨Tryz.underlying28, by kernel_rfl, rfl, by decide⟩
theorem ZJc : Elem Tryz.prog 30 211 1 8 (Value.int IntKind.u64 0) := ⟨Tryz.underlying30, by kernel_rfl, rfl, by decide⟩
theorem Zpb : Elem Tryz.prog 40 212 1 4 (Value.int IntKind.u32 0) := ⟨Tryz.underlying40, by kernel_rfl, rfl, by decide⟩
theorem Z4h : Elem Tryz.prog 80 34 3 56 (Value.agg #[Value.bool false, Value.slice none 0 0, Value.slice none 0 0]) := ⟨Tryz.underlying80, by kernel_rfl, rfl, by decide⟩
theorem ZEm : Elem Tryz.prog 85 42 3 56 (Value.agg #[Value.bool false, Value.slice none 0 0, Value.slice none 0 0]) := ⟨Tryz.underlying85, by kernel_rfl, rfl, by decide⟩
theorem k_en100 : ZO Tryz.prog 100 := fun _ _ => by kernel_rfl
theorem Zye : ZO Tryz.prog 101 := fun _ _ => by kernel_rfl
theorem Znh : ZO Tryz.prog 102 := fun _ _ => by kernel_rfl
theorem ZMg : ZO Tryz.prog 103 := fun _ _ => by kernel_rfl
theorem ZUd : ZO Tryz.prog 104 := fun _ _ => by kernel_rfl
theorem k_en105 : ZO Tryz.prog 105 := fun _ _ => by kernel_rfl
theorem ZVi : ZO Tryz.prog 106 := fun _ _ => by kernel_rfl
theorem ZSm : ZO Tryz.prog 107 := fun _ _ => by kernel_rfl
theorem k_en108 : ZO Tryz.prog 108 := fun _ _ => by kernel_rfl
theorem Zoj : ZO Tryz.prog 109 := fun _ _ => by kernel_rfl
theorem Z6d : ZO Tryz.prog 110 := fun _ _ => by kernel_rfl
theorem ZKe : ZO Tryz.prog 111 := fun _ _ => by kernel_rfl
theorem ZVd : ZO Tryz.prog 112 := fun _ _ => by kernel_rfl
theorem k_en113 : ZO Tryz.prog 113 := fun _ _ => by kernel_rfl
theorem Zbh : ZO Tryz.prog 114 := fun _ _ => by kernel_rfl
theorem ZGh : ZO Tryz.prog 115 := fun _ _ => by kernel_rfl
theorem k_en119 : ZO Tryz.prog 119 := fun _ _ => by kernel_rfl
theorem k_en120 : ZO Tryz.prog 120 := fun _ _ => by kernel_rfl
theorem k_en121 : ZO Tryz.prog 121 := fun _ _ => by kernel_rfl
theorem ZYl : ZO Tryz.prog 124 := fun _ _ => by kernel_rfl
theorem ZHh : ZO Tryz.prog 126 := fun _ _ => by kernel_rfl
theorem k_en127 : ZO Tryz.prog 127 := fun _ _ => by kernel_rfl
theorem Zam : ZO Tryz.prog 137 := fun _ _ => by kernel_rfl
theorem k_en138 : ZO Tryz.prog 138 := fun _ _ => by kernel_rfl
theorem ZUe : ZO Tryz.prog 139 := fun _ _ => by kernel_rfl
theorem k_en140 : ZO Tryz.prog 140 := fun _ _ => by kernel_rfl
theorem k_en141 : ZO Tryz.prog 141 := fun _ _ => by kernel_rfl
theorem k_en142 : ZO Tryz.prog 142 := fun _ _ => by kernel_rfl
theorem ZUl : ZO Tryz.prog 143 := fun _ _ => by kernel_rfl
theorem k_en144 : ZO Tryz.prog 144 := fun _ _ => by kernel_rfl
theorem Z2h : ZO Tryz.prog 145 := fun _ _ => by kernel_rfl
theorem Z1h : ZO Tryz.prog 146 := fun _ _ => by kernel_rfl
theorem Zwj : ZO Tryz.prog 147 := fun _ _ => by kernel_rfl
theorem ZEd : ZO Tryz.prog 149 := fun _ _ => by kernel_rfl
theorem Znj : ZO Tryz.prog 15 := fun _ _ => by kernel_rfl
theorem Z6k : ZO Tryz.prog 150 := fun _ _ => by kernel_rfl
theorem Zgl : ZO Tryz.prog 151 := fun _ _ => by kernel_rfl
theorem ZKm : ZO Tryz.prog 152 := fun _ _ => by kernel_rfl
theorem k_en153 : ZO Tryz.prog 153 := fun _ _ => by kernel_rfl
theorem k_en154 : ZO Tryz.prog 154 := fun _ _ => by kernel_rfl
theorem ZKj : ZO Tryz.prog 155 := fun _ _ => by kernel_rfl
theorem Zge : ZO Tryz.prog 156 := fun _ _ => by kernel_rfl
theorem k_en157 : ZO Tryz.prog 157 := fun _ _ => by kernel_rfl
theorem Z5j : ZO Tryz.prog 158 := fun _ _ => by kernel_rfl
theorem k_en159 : ZO Tryz.prog 159 := fun _ _ => by kernel_rfl
theorem k_en161 : ZO Tryz.prog 161 := fun _ _ => by kernel_rfl
theorem Zzl : ZO Tryz.prog 167 := fun _ _ => by kernel_rfl
theorem k_en168 : ZO Tryz.prog 168 := fun _ _ => by kernel_rfl
theorem k_en169 : ZO Tryz.prog 169 := fun _ _ => by kernel_rfl
theorem k_en17 : ZO Tryz.prog 17 := fun _ _ => by kernel_rfl
theorem k_en170 : ZO Tryz.prog 170 := fun _ _ => by kernel_rfl
theorem k_en171 : ZO Tryz.prog 171 := fun _ _ => by kernel_rfl
theorem k_en172 : ZO Tryz.prog 172 := fun _ _ => by kernel_rfl
theorem k_en173 : ZO Tryz.prog 173 := fun _ _ => by kernel_rfl
theorem ZSk : ZO Tryz.prog 174 := fun _ _ => by kernel_rfl
theorem k_en175 : ZO Tryz.prog 175 := fun _ _ => by kernel_rfl
theorem ZHm : ZO Tryz.prog 176 := fun _ _ => by kernel_rfl
theorem ZKh : ZO Tryz.prog 177 := fun _ _ => by kernel_rfl
theorem k_en178 : ZO Tryz.prog 178 := fun _ _ => by kernel_rfl
theorem k_en179 : ZO Tryz.prog 179 := fun _ _ => by kernel_rfl
theorem k_en181 : ZO Tryz.prog 181 := fun _ _ => by kernel_rfl
theorem Zvl : ZO Tryz.prog 182 := fun _ _ => by kernel_rfl
theorem k_en183 : ZO Tryz.prog 183 := fun _ _ => by kernel_rfl
theorem k_en184 : ZO Tryz.prog 184 := fun _ _ => by kernel_rfl
theorem k_en185 : ZO Tryz.prog 185 := fun _ _ => by kernel_rfl
theorem Z4k : ZO Tryz.prog 190 := fun _ _ => by kernel_rfl
theorem k_en196 : ZO Tryz.prog 196 := fun _ _ => by kernel_rfl
theorem k_en197 : ZO Tryz.prog 197 := fun _ _ => by kernel_rfl
theorem k_en198 : ZO Tryz.prog 198 := fun _ _ => by kernel_rfl
theorem Zse : ZO Tryz.prog 20 := fun _ _ => by kernel_rfl
theorem Z3c : ZO Tryz.prog 21 := fun _ _ => by kernel_rfl
theorem Zxg : ZO Tryz.prog 25 := fun _ _ => by kernel_rfl
theorem ZPm : ZO Tryz.prog 26 := fun _ _ => by kernel_rfl
theorem k_en27 : ZO Tryz.prog 27 := fun _ _ => by kernel_rfl
theorem ZAd : ZO Tryz.prog 28 := fun _ _ => by kernel_rfl
theorem Zve : ZO Tryz.prog 29 := fun _ _ => by kernel_rfl
theorem Zdf : ZO Tryz.prog 30 := fun _ _ => by kernel_rfl
theorem Z9d : ZO Tryz.prog 31 := fun _ _ => by kernel_rfl
theorem Zjh : ZO Tryz.prog 32 := fun _ _ => by kernel_rfl
theorem k_en33 : ZO Tryz.prog 33 := fun _ _ => by kernel_rfl
theorem k_en34 : ZO Tryz.prog 34 := fun _ _ => by kernel_rfl
theorem ZIe : ZO Tryz.prog 35 := fun _ _ => by kernel_rfl
theorem k_en36 : ZO Tryz.prog 36 := fun _ _ => by kernel_rfl
theorem Zmd : ZO Tryz.prog 37 := fun _ _ => by kernel_rfl
theorem Zue : ZO Tryz.prog 38 := fun _ _ => by kernel_rfl
theorem Zsm : ZO Tryz.prog 39 := fun _ _ => by kernel_rfl
theorem k_en40 : ZO Tryz.prog 40 := fun _ _ => by kernel_rfl
theorem Z1d : ZO Tryz.prog 41 := fun _ _ => by kernel_rfl
theorem Ztl : ZO Tryz.prog 42 := fun _ _ => by kernel_rfl
theorem k_en43 : ZO Tryz.prog 43 := fun _ _ => by kernel_rfl
theorem Zim : ZO Tryz.prog 44 := fun _ _ => by kernel_rfl
theorem k_en52 : ZO Tryz.prog 52 := fun _ _ => by kernel_rfl
theorem k_en54 : ZO Tryz.prog 54 := fun _ _ => by kernel_rfl
theorem Zie : ZO Tryz.prog 61 := fun _ _ => by kernel_rfl
theorem Zzf : ZO Tryz.prog 62 := fun _ _ => by kernel_rfl
theorem Zci : ZO Tryz.prog 64 := fun _ _ => by kernel_rfl
theorem Zfg : ZO Tryz.prog 80 := fun _ _ => by kernel_rfl
theorem k_en81 : ZO Tryz.prog 81 := fun _ _ => by kernel_rfl
theorem ZVk : ZO Tryz.prog 82 := fun _ _ => by kernel_rfl
theorem ZVc : ZO Tryz.prog 84 := fun _ _ => by kernel_rfl
theorem ZAc : ZO Tryz.prog 85 := fun _ _ => by kernel_rfl
theorem Z9g : ZO Tryz.prog 86 := fun _ _ => by kernel_rfl
theorem Ztk : ZO Tryz.prog 87 := fun _ _ => by kernel_rfl
theorem Z8h : ZO Tryz.prog 88 := fun _ _ => by kernel_rfl
theorem k_en89 : ZO Tryz.prog 89 := fun _ _ => by kernel_rfl
theorem k_en90 : ZO Tryz.prog 90 := fun _ _ => by kernel_rfl
theorem Zpf : ZO Tryz.prog 93 := fun _ _ => by kernel_rfl
theorem ZHj : ZO Tryz.prog 94 := fun _ _ => by kernel_rfl
theorem Zjk : ZO Tryz.prog 96 := fun _ _ => by kernel_rfl
theorem k_en97 : ZO Tryz.prog 97 := fun _ _ => by kernel_rfl
theorem k_en98 : ZO Tryz.prog 98 := fun _ _ => by kernel_rfl
theorem Z3g : ZO Tryz.prog 99 := fun _ _ => by kernel_rfl
theorem Z8l : EqB Tryz.prog 4 := fun _ _ _ => by kernel_rfl
theorem Zph : Zuf Tryz.prog 148 add64Entry := ⟨_, Tryz.func148, by kernel_rfl, by kernel_rfl, by kernel_rfl, by kernel_rfl⟩
theorem Zxl : Zuf Tryz.prog 180 Z9j := ⟨_, Tryz.func180, by kernel_rfl, by kernel_rfl, by kernel_rfl, by kernel_rfl⟩
theorem ZCl : Z2b Tryz.prog 100 0 0 := fun _ _ _ => by kernel_rfl
theorem Zef : Z2b Tryz.prog 100 1 3 := fun _ _ _ => by kernel_rfl
theorem Zgb : Z2b Tryz.prog 32 0 0 := fun _ _ _ => by kernel_rfl
theorem Zab : Z2b Tryz.prog 32 1 1 := fun _ _ _ => by kernel_rfl
theorem Zlb : Z2b Tryz.prog 34 0 0 := fun _ _ _ => by kernel_rfl
theorem Zvb : Z2b Tryz.prog 34 1 2 := fun _ _ _ => by kernel_rfl
theorem ZOa : Z2b Tryz.prog 42 0 0 := fun _ _ _ => by kernel_rfl
theorem Z8b : Z2b Tryz.prog 42 1 1 := fun _ _ _ => by kernel_rfl
theorem Zwk : Z2b Tryz.prog 42 2 2 := fun _ _ _ => by kernel_rfl
theorem Z0i : Z2b Tryz.prog 50 0 0 := fun _ _ _ => by kernel_rfl
theorem Zui : Z2b Tryz.prog 50 1 1 := fun _ _ _ => by kernel_rfl
theorem Zwf : Z2b Tryz.prog 53 0 0 := fun _ _ _ => by kernel_rfl
theorem ZMh : Z2b Tryz.prog 53 1 3 := fun _ _ _ => by kernel_rfl
theorem Zhl : Z2b Tryz.prog 53 2 6 := fun _ _ _ => by kernel_rfl
theorem Zqd : Z2b Tryz.prog 55 0 0 := fun _ _ _ => by kernel_rfl
theorem Z8g : Z2b Tryz.prog 55 1 3 := fun _ _ _ => by kernel_rfl
theorem Zcm : Z2b Tryz.prog 55 2 6 := fun _ _ _ => by kernel_rfl
theorem Z9 : Tryz.prog.follows .mixedOrders = true := by kernel_rfl
theorem Zcc : NeB Tryz.prog 4 := fun _ _ _ => by kernel_rfl
theorem Zmb : Zed Tryz.prog 22 28 1 := ⟨fun _ => by kernel_rfl, fun _ => by kernel_rfl⟩
theorem Z6j : Zed Tryz.prog 263 9 1 := ⟨fun _ => by kernel_rfl, fun _ => by kernel_rfl⟩
theorem Z5b : Zed Tryz.prog 28 3 1 := ⟨fun _ => by kernel_rfl, fun _ => by kernel_rfl⟩
theorem ZS : Zed Tryz.prog 30 211 1 := ⟨fun _ => by kernel_rfl, fun _ => by kernel_rfl⟩
theorem Zca : Zed Tryz.prog 40 212 1 := ⟨fun _ => by kernel_rfl, fun _ => by kernel_rfl⟩
theorem ZTc : Zed Tryz.prog 80 34 3 := ⟨fun _ => by kernel_rfl, fun _ => by kernel_rfl⟩
theorem Zxm : Zed Tryz.prog 96 50 2 := ⟨fun _ => by kernel_rfl, fun _ => by kernel_rfl⟩
theorem Z2e : Sized Tryz.prog 100 4 true := ⟨fun _ => by kernel_rfl, fun _ => by kernel_rfl⟩
theorem Z7j : Sized Tryz.prog 102 4 true := ⟨fun _ => by kernel_rfl, fun _ => by kernel_rfl⟩
theorem ZEe : Sized Tryz.prog 2 1 false := ⟨fun _ => by kernel_rfl, fun _ => by kernel_rfl⟩
theorem Zya : Sized Tryz.prog 211 1 false := ⟨fun _ => by kernel_rfl, fun _ => by kernel_rfl⟩
theorem Zjb : Sized Tryz.prog 212 1 false := ⟨fun _ => by kernel_rfl, fun _ => by kernel_rfl⟩
theorem ZHe : Sized Tryz.prog 22 1 false := ⟨fun _ => by kernel_rfl, fun _ => by kernel_rfl⟩
theorem Z4i : Sized Tryz.prog 28 1 false := ⟨fun _ => by kernel_rfl, fun _ => by kernel_rfl⟩
theorem ZXc : Sized Tryz.prog 3 1 false := ⟨fun _ => by kernel_rfl, fun _ => by kernel_rfl⟩
theorem Zwa : Sized Tryz.prog 30 1 false := ⟨fun _ => by kernel_rfl, fun _ => by kernel_rfl⟩
theorem ZLa : Sized Tryz.prog 32 2 true := ⟨fun _ => by kernel_rfl, fun _ => by kernel_rfl⟩
theorem Zs : Sized Tryz.prog 34 3 true := ⟨fun _ => by kernel_rfl, fun _ => by kernel_rfl⟩
theorem Zia : Sized Tryz.prog 4 1 false := ⟨fun _ => by kernel_rfl, fun _ => by kernel_rfl⟩
theorem ZFb : Sized Tryz.prog 40 1 false := ⟨fun _ => by kernel_rfl, fun _ => by kernel_rfl⟩
theorem ZE : Sized Tryz.prog 42 3 true := ⟨fun _ => by kernel_rfl, fun _ => by kernel_rfl⟩
theorem k_sz5 : Sized Tryz.prog 5 1 false := ⟨fun _ => by kernel_rfl, fun _ => by kernel_rfl⟩
theorem Zda : Sized Tryz.prog 50 2 true := ⟨fun _ => by kernel_rfl, fun _ => by kernel_rfl⟩
theorem k_sz51 : Sized Tryz.prog 51 6 true := ⟨fun _ => by kernel_rfl, fun _ => by kernel_rfl⟩
theorem Zzb : Sized Tryz.prog 53 9 true := ⟨fun _ => by kernel_rfl, fun _ => by kernel_rfl⟩
theorem ZGd : Sized Tryz.prog 55 9 true := ⟨fun _ => by kernel_rfl, fun _ => by kernel_rfl⟩
theorem Znf : Sized Tryz.prog 80 1 false := ⟨fun _ => by kernel_rfl, fun _ => by kernel_rfl⟩
theorem k_sz9 : Sized Tryz.prog 9 1 false := ⟨fun _ => by kernel_rfl, fun _ => by kernel_rfl⟩
theorem ZLl : ∀ w, (zeroValue 100).run Tryz.prog w = .ok (Value.agg #[Value.bool false, Value.slice none 0 0, Value.slice none 0 0, Value.slice none 0 0]) w := fun _ => by kernel_rfl
theorem Z0l : ∀ w, (zeroValue 102).run Tryz.prog w = .ok (Value.agg #[Value.bool false, Value.slice none 0 0, Value.slice none 0 0, Value.slice none 0 0]) w := fun _ => by kernel_rfl
theorem k_zv270 : ∀ w, (zeroValue 270).run Tryz.prog w = .ok (Value.agg #[Value.pointer none, Value.slice none 0 0]) w := fun _ => by kernel_rfl
theorem k_zv291 : ∀ w, (zeroValue 291).run Tryz.prog w = .ok (Value.agg #[Value.int IntKind.u8 0, Value.int IntKind.u8 0, Value.int IntKind.u8 0, Value.int IntKind.u8 0, Value.int IntKind.u8 0, Value.int IntKind.u8 0, Value.int IntKind.u8 0, Value.int IntKind.u8 0, Value.int IntKind.u8 0, Value.int IntKind.u8 0, Value.int IntKind.u8 0, Value.int IntKind.u8 0, Value.int IntKind.u8 0, Value.int IntKind.u8 0, Value.int IntKind.u8 0, Value.int IntKind.u8 0, Value.int IntKind.u8 0, Value.int IntKind.u8 0, Value.int IntKind.u8 0, Value.int IntKind.u8 0]) w := fun _ => by kernel_rfl
theorem Zbd : ∀ w, (zeroValue 32).run Tryz.prog w = .ok (Value.agg #[Value.bool false, Value.slice none 0 0]) w := fun _ => by kernel_rfl
theorem Zza : ∀ w, (zeroValue 34).run Tryz.prog w = .ok (Value.agg #[Value.bool false, Value.slice none 0 0, Value.slice none 0 0]) w := fun _ => by kernel_rfl
theorem Zbb : ∀ w, (zeroValue 42).run Tryz.prog w = .ok (Value.agg #[Value.bool false, Value.slice none 0 0, Value.slice none 0 0]) w := fun _ => by kernel_rfl
theorem k_zv50 : ∀ w, (zeroValue 50).run Tryz.prog w = .ok (Value.agg #[Value.int IntKind.i64 0, Value.int IntKind.i64 0]) w := fun _ => by kernel_rfl
theorem Zqj : ∀ w, (zeroValue 53).run Tryz.prog w = .ok (Value.agg #[Value.bool false, Value.slice none 0 0, Value.slice none 0 0, Value.bool false, Value.slice none 0 0, Value.slice none 0 0, Value.bool false, Value.slice none 0 0, Value.slice none 0 0]) w := fun _ => by kernel_rfl
theorem Zck : ∀ w, (zeroValue 55).run Tryz.prog w = .ok (Value.agg #[Value.bool false, Value.slice none 0 0, Value.slice none 0 0, Value.bool false, Value.slice none 0 0, Value.slice none 0 0, Value.bool false, Value.slice none 0 0, Value.slice none 0 0]) w := fun _ => by kernel_rfl
theorem cut_w {e : World} {d : Zd} (hv : VIn d e) {E : List Value} {a : (List Int)} (F : Rep.rel (ZA (Za .u64)) d E a) {z : (List Int)} (H : Zhi a = some z) : Ret Tryz.prog 149 #[(ZA (Za .u64)).val E] e d (fun y v' => ∃ G, y = (ZA (Za .u64)).val G ∧ (ZA (Za .u64)).rel v' G z) := by
  obtain ⟨M, N, O, rfl⟩ := ZTa F; refine ZQ (K := 21) (args := [.slice M (N) O]) hv Tryz.func149 rfl rfl zl fun f S => ?_; unfold Zhi at H; refine sr ?_; have S := S.nilLoc 211 1; refine ov S rfl (Zka S (y := .slice (mkA none) 0 0) rfl) fun f S => oe (Zh fun _ P => ?_); obtain ⟨Q, R, T⟩ := Zb H; refine ZP (fun f w => ∃ (B : (List Int)) (j : Option Addr) (k : Nat) (l : Nat) (m : Zd), B = Q ∧ Zd.le d m ∧ St 21 e d [(0, .slice j (k) l)] [] m f w ∧ Rep.rel (ZA (Za .u64)) m [.slice j (k) l] B) (fun _ U => ?_) ?_
  · have H := R; refine wp_block ?_; obtain ⟨am, V, W⟩ := Zb H; have S := S.reorder (ℓ' := []) [] rfl (by decide); refine Zxa V (fun X f w => ∃ (n : (List Int)) (o : Option Addr) (q : Nat) (s : Nat) (g : Zd), n = X ∧ Zd.le d g ∧ St 21 e d [(0, .slice o (q) s)] [] g f w ∧ Rep.rel (ZA (Za .u64)) g [.slice o (q) s] n) ⟨_, _, _, _, _, rfl, (leR _), (S.fr' rfl), F⟩ ?_; rintro _ f w st ⟨n, o, q, s, g, hq, I, S, c⟩ H an Y Z; subst hq; refine Zh fun _ aa => Zh fun _ ab => ?_; obtain ⟨ac, ad, ae⟩ := Zb H; refine ZP (fun f w => ∃ (u : Bool) (C : Zd), u = ac ∧ Zd.le g C ∧ St 21 e d [(0, .slice o (q) s), (14, .bool (u))] [] C f w) (fun _ J => ?_) ?_
    · have H := ad; rcases Zx (decide ((0 : Int) < (n.length : Int))) with h | h
      · have H := Zw H h; obtain ⟨ao, af, H⟩ := Zb H; obtain ⟨ap, D, H⟩ := Zb H; refine Zo (mv S rfl fun f S => ov S rfl (ZL S (Zz c) rfl rfl ZS) fun f S => ov S rfl (Zj S rfl rfl ZCa) fun f S => ?_); have S := S.bool (t := 5) rfl h; refine mv S rfl fun f S => opy S rfl rfl rfl rfl (Zr S rfl) fun f S => opy S rfl rfl rfl rfl (Zr S rfl) fun f S => opy S rfl rfl rfl rfl (ZL S (Zz c) rfl rfl ZS) fun f S => opy S rfl rfl rfl rfl (Zj S rfl rfl (ZHa af)) fun f S => ?_; obtain ⟨_, aq, ar, au, rfl, ag, ah⟩ := Zta c (Zm D).2.1; obtain ⟨rfl, av⟩ := ah; refine opy S rfl rfl rfl rfl (ZW S rfl rfl ZS (Zm D).1 (ltI (Zz c) (Zm D).2.2.1)) fun f S => opy S rfl rfl rfl rfl (Z7 S rfl Zya (S.view ag)) fun f S => opy S rfl rfl rfl rfl (Zj S rfl rfl Z4) fun f S => ov S rfl (ZD S (b := true) rfl rfl) fun f S => Zn ?_; obtain rfl := Zg H; refine Zc (J _ _ ⟨_, _, rfl, (leR _), (S.fr' rfl)⟩)
      have H := Zy H h; refine Zo (mv S rfl fun f S => ov S rfl (ZL S (Zz c) rfl rfl ZS) fun f S => ov S rfl (Zj S rfl rfl ZCa) fun f S => ?_); have S := S.bool (t := 5) rfl h; refine mv S rfl fun f S => opn S rfl rfl rfl rfl fun f S => opn S rfl rfl rfl rfl fun f S => opn S rfl rfl rfl rfl fun f S => opn S rfl rfl rfl rfl fun f S => opn S rfl rfl rfl rfl fun f S => opn S rfl rfl rfl rfl fun f S => opn S rfl rfl rfl rfl fun f S => ov S rfl (ZD S (b := false) rfl rfl) fun f S => Zn ?_; obtain rfl := Zg H; refine Zc (J _ _ ⟨_, _, rfl, (leR _), (S.fr' rfl)⟩)
    rintro f w ⟨u, C, hq, v, S⟩; subst hq; have H := ae; refine Zc (ab _ _ ?_); rcases Zx (u) with i | i
    · have H := Zw H i; refine ZH S rfl i (wp_skip (Zc (aa _ _ (wp_block ?_)))); obtain ⟨ai, aj, H⟩ := Zb H; obtain ⟨aw, x, H⟩ := Zb H; refine Zo (mv S rfl fun f S => mv S rfl fun f S => ?_); have c := Zp v c; refine ov S rfl (ZL S (Zz c) rfl rfl ZS) fun f S => ov S rfl (Zj S rfl rfl (ZHa aj)) fun f S => ?_; obtain ⟨ax, ay, ak, L⟩ := ZXi S (A := (Za .u64)) (p := (0 : Int)) (r := ai) ZS c (ZDb x).1 (ZDb x).2.1 (ZDb x).2.2.1; rw [← (ZDb x).2.2.2.1] at L; refine ov S rfl (ak rfl (.inl ⟨rfl, rfl⟩) (.inr ⟨_, _, rfl, rfl⟩)) fun f S => mw S rfl fun f S => Zn (Zua ?_); obtain rfl := Zg H; refine Y _ rfl _ _ ⟨_, _, _, _, _, rfl, (leT I v), (S.fr' rfl), L⟩
    have H := Zy H i; refine ZG S rfl i (wp_exit (ZU ?_)); obtain rfl := Zg H; have hq := Z _ rfl; subst hq; have H := W; refine ZU (Zoa ?_); obtain rfl := Zg H; have c := Zp v c; refine Zc (U _ _ ⟨_, _, _, _, _, rfl, (leT (leT (leR _) I) v), (S.fr' rfl), c⟩)
  rintro f w ⟨B, j, k, l, m, hq, az, S, al⟩; subst hq; have H := T; refine Zc (P _ _ (sr (mv S rfl fun f S => mw S rfl fun f S => oe (wp_ret ?_)))); obtain rfl := Zg H; refine ZB S (ZJ rfl (ZF S rfl)) ⟨[.slice j (k) l], rfl, al⟩
theorem ZKd {d : World} {b : Zd} (hv : VIn b d) {e : List Value} {a : (List Int)} (c : Rep.rel (ZA (Za .u64)) b e a) {z : Nat} (hm : Zsb a = some z) :
    Ret Tryz.prog 149 #[(ZA (Za .u64)).val e] d b (fun y v' => ∃ f, y = ZC.val f ∧ ZC.rel v' f z) :=
  by cases hm; exact cut_w hv c (cut_eq (ZFj c).1 (ZFj c).2)
theorem word_w {b : World} {a : Zd} (hv : VIn a b) {c : List Value} {n : Int} (h : Rep.rel (Za .u64) a c n) {z : Nat} (H : ZSh n = some z) : Ret Tryz.prog 139 #[(Za .u64).val c] b a (fun y v' => ∃ d, y = ZC.val d ∧ ZC.rel v' d z) := by
  obtain ⟨rfl, j⟩ := h; refine ZQ (K := 6) (args := [.int .u64 (n)]) hv Tryz.func139 rfl rfl zl fun f S => ?_; unfold ZSh at H; refine sr (mw S rfl fun f S => oe (Zh fun _ k => ?_)); obtain ⟨u, m, H⟩ := Zb H; refine Zo (mv S rfl fun f S => ?_); obtain ⟨e, w, o, S⟩ := Z1a S (n := 1) (cs := [.int .u64 (n)]) (vals := [(0, .int .u64 (n))]) (sz := 1) rfl (by decide) (ZTb ZJc (x := .int .u64 (n)) (cs := [.int .u64 (n)]) rfl rfl (by decide)); have p : Rep.rels (Za .u64) a [.int .u64 (n)] [n] := (ZXa (Zq j) ZVa); refine Zna wn rfl zl (o rfl) S fun f S => ?_; obtain ⟨v, B, S, q⟩ := S.pubSlice (i := 0) (A := (Za .u64)) (l := [n]) (ℓ' := []) rfl rfl rfl p rfl; refine opc S rfl (Zk S [.slice (mkA (some e)) (1) 1] ZEd rfl rfl) (ZKd S.vin (show Rep.rel (ZA (Za .u64)) _ [.slice (mkA (some e)) (1) 1] ([n]) from q) m) ?_; rintro _ C f w D ⟨E, rfl, g⟩ S; obtain ⟨r, s, t, rfl⟩ := Z3 g; refine mw S rfl fun f S => Zn (Zc (k _ _ (wp_ret ?_))); obtain rfl := Zg H; refine ZB S (ZJ rfl (ZF S rfl)) ⟨[.slice r s t], rfl, g⟩
theorem ZLe {b : World} {a : Zd} (hv : VIn a b) {c : List Value} {n : Int} (e : Rep.rel (Za .u64) a c n) {z : Nat} (hm : ZWb n = some z) :
    Ret Tryz.prog 139 #[(Za .u64).val c] b a (fun y v' => ∃ d, y = ZC.val d ∧ ZC.rel v' d z) :=
  word_w hv e (ZUm hm)
theorem of_w {k : World} {j : Zd} (hv : VIn j k) {l : List Value} {n : Int} (q : Rep.rel (Za .i64) j l n) {z : Int} (H : of_m n = some z) : Ret Tryz.prog 88 #[(Za .i64).val l] k j (fun y v' => ∃ m, y = Z8.val m ∧ Z8.rel v' m z) := by
  obtain ⟨rfl, G⟩ := q; refine ZQ (K := 14) (args := [.int .i64 (n)]) hv Tryz.func88 rfl rfl zl fun f S => ?_; unfold of_m at H; refine sr (Z6 S wn rfl zl (cs := [.bool false, .slice none 0 0]) (ZV Zbd) fun I f w S => oe (Zh fun _ r => sr (mv S rfl fun f S => ov S rfl (Zj S rfl rfl Zfa) fun f S => oe ?_))); rcases Zx (decide (n < (0 : Int))) with a | a
  · have H := Zw H a; refine ZH S rfl a (Zh fun _ t => ?_); obtain ⟨J, u, H⟩ := Zb H; refine Zo (mv S rfl fun f S => ov S rfl (ZKa S rfl (Zni _)) fun f S => ov S rfl (Zom S rfl) fun f S => opc S rfl (Zk S [.int .u64 (IntKind.u64.wrap (-(IntKind.u64.wrap n)))] ZUe rfl rfl) (ZLe S.vin (show Rep.rel (Za .u64) _ [.int .u64 (IntKind.u64.wrap (-(IntKind.u64.wrap n)))] (IntKind.u64.wrap (-(IntKind.u64.wrap n))) from (Zq (Zva _ _))) u) ?_); rintro _ L f w M ⟨c25, rfl, o⟩ S; obtain ⟨b, c, d, rfl⟩ := Z3 o; refine ov S rfl (ZQa S [(0, .bool (true)), (1, .slice b c d)] rfl (z := .agg #[.bool (true), .slice b c d]) (by kernel_rfl)) fun f S => ?_; obtain ⟨w, v, S⟩ := sbp S [.bool (true), .slice b c d] ZLa 0 0 rfl; refine Z1 wn rfl (v rfl rfl) (Zn (Zc (t _ _ (wp_ret (ZR ?_))))); obtain ⟨N, x, H⟩ := Zb H; have A := Zri (s := true) o x; obtain rfl := Zg H; refine ZB S (ZJ rfl (Zuc S rfl ZLa rfl (S.box (i := 0) rfl 0 [.bool (true), .slice b c d] rfl))) ⟨[.bool (true), .slice b c d], rfl, A⟩
  have H := Zy H a; refine ZG S rfl a (wp_skip (Zc (r _ _ (Zh fun _ B => ?_)))); obtain ⟨O, C, H⟩ := Zb H; refine Zo (mv S rfl fun f S => ov S rfl (ZKa S rfl (Zni _)) fun f S => opc S rfl (Zk S [.int .u64 (IntKind.u64.wrap n)] ZUe rfl rfl) (ZLe S.vin (show Rep.rel (Za .u64) _ [.int .u64 (IntKind.u64.wrap n)] (IntKind.u64.wrap n) from (Zq (Zva _ _))) C) ?_); rintro _ P f w Q ⟨R, rfl, p⟩ S; obtain ⟨e, g, h, rfl⟩ := Z3 p; refine ov S rfl (ZQa S [(0, .bool (false)), (1, .slice e g h)] rfl (z := .agg #[.bool (false), .slice e g h]) (by kernel_rfl)) fun f S => ?_; obtain ⟨w, D, S⟩ := sbp S [.bool (false), .slice e g h] ZLa 0 0 rfl; refine Z1 wn rfl (D rfl rfl) (Zn (Zc (B _ _ (wp_ret ?_)))); obtain ⟨T, E, H⟩ := Zb H; have F := Zri (s := false) p E; obtain rfl := Zg H; refine ZB S (ZJ rfl (Zuc S rfl ZLa rfl (S.box (i := 0) rfl 0 [.bool (false), .slice e g h] rfl))) ⟨[.bool (false), .slice e g h], rfl, F⟩
theorem of_c {b : World} {a : Zd} (hv : VIn a b) {c : List Value} {n : Int} (d : Rep.rel (Za .i64) a c n) {z : Int} (hm : ofF n = some z) :
    Ret Tryz.prog 88 #[(Za .i64).val c] b a (fun y v' => ∃ e, y = Z8.val e ∧ Z8.rel v' e z) :=
  of_w hv d (ofF_eq d.2 hm)
theorem qint_w {g : World} {e : Zd} (hv : VIn e g) {h : List Value} {n : Int} (k : Rep.rel (Za .i64) e h n) {z : Rat} (H : Zti n = some z) : Ret Tryz.prog 20 #[(Za .i64).val h] g e (fun y v' => ∃ i, y = Zf.val i ∧ Zf.rel v' i z) := by
  obtain ⟨rfl, l⟩ := k; refine ZQ (K := 6) (args := [.int .i64 (n)]) hv Tryz.func20 rfl rfl zl fun f S => ?_; unfold Zti at H; refine sr (Z6 S wn rfl zl (cs := [.bool false, .slice none 0 0, .slice none 0 0]) (ZV Zza) fun s f w S => oe (Zh fun _ m => ?_)); obtain ⟨t, o, H⟩ := Zb H; refine Zo (mv S rfl fun f S => opc S rfl (Zk S [.int .i64 (n)] Z8h rfl rfl) (of_c S.vin (show Rep.rel (Za .i64) _ [.int .i64 (n)] n from (Zq l)) o) ?_); rintro _ u f w v ⟨x, rfl, j⟩ S; obtain ⟨a, b, c, d, rfl⟩ := ZWa j; refine ov S rfl (ZQa S [(0, .agg #[.bool a, .slice b c d])] rfl (z := .agg #[.bool a, .slice b c d, .slice none 0 0]) (by kernel_rfl)) fun f S => ?_; obtain ⟨w, p, S⟩ := sbp S [.bool a, .slice b c d, .slice none 0 0] Zs 0 0 rfl; refine Z1 wn rfl (p rfl rfl) (Zn (Zc (m _ _ (wp_ret ?_)))); obtain ⟨A, q, H⟩ := Zb H; have r := ZIh j (ZBf _) q; obtain rfl := Zg H; refine ZB S (ZJ rfl (Zpa S rfl Zs 0 rfl rfl)) ⟨[.bool a, .slice b c d, .slice none 0 0], rfl, r⟩
theorem ZPe {b : World} {a : Zd} (hv : VIn a b) {c : List Value} {n : Int} (e : Rep.rel (Za .i64) a c n) {z : Rat} (hm : Zrd n = some z) :
    Ret Tryz.prog 20 #[(Za .i64).val c] b a (fun y v' => ∃ d, y = Zf.val d ∧ Zf.rel v' d z) :=
  qint_w hv e (Z0m hm)
theorem len64_w {b : World} {a : Zd} (hv : VIn a b) {q : List Value} {x : Int} (J : Rep.rel (Za .u64) a q x) {z : Int} (H : Zih x = some z) : Ret Tryz.prog 196 #[(Za .u64).val q] b a (fun y v' => ∃ r, y = (Za .i64).val r ∧ (Za .i64).rel v' r z) := by
  obtain ⟨rfl, s⟩ := J; refine ZQ (K := 25) (args := [.int .u64 (x)]) hv Tryz.func196 rfl rfl zl fun f S => ?_; unfold Zih at H; refine sr (mw S rfl fun f S => oe (Zh fun _ L => sr (mv S rfl fun f S => ov S rfl (Zj S rfl rfl Zkb) fun f S => oe ?_))); obtain ⟨M, N, O⟩ := Zb H; refine ZP (fun f w => ∃ (c : Int) (i : Int) (j : Zd), (c, i) = M ∧ Zd.le a j ∧ St 25 b a [(0, .int .u64 (c)), (2, .int .i64 (i))] [] j f w ∧ inR .u64 c ∧ inR .i64 i) (fun _ t => ?_) ?_
  · have H := N; rcases Zx (decide ((4294967296 : Int) ≤ x)) with d | d
    · have H := Zw H d; refine ZH S rfl d (Zh fun _ P => ?_); obtain ⟨ag, u, H⟩ := Zb H; refine Zo (mv S rfl fun f S => ov S rfl (Zj S rfl rfl (ZAb u)) fun f S => mw S rfl fun f S => Zn (Zc (P _ _ (Zo (mw S rfl fun f S => Zn ?_))))); obtain rfl := Zg H; refine Zc (t _ _ ⟨_, _, _, rfl, (leR _), (S.fr' rfl), (ZId s u), (by decide)⟩)
    have H := Zy H d; refine ZG S rfl d (wp_skip ?_); obtain rfl := Zg H; refine Zc (t _ _ ⟨_, _, _, rfl, (leR _), (S.fr' rfl), s, (by decide)⟩)
  rintro f w ⟨c, i, j, hq, ah, S, v, Q⟩; subst hq; have H := O; refine Zc (L _ _ (Zh fun _ R => sr (mv S rfl fun f S => ov S rfl (Zj S rfl rfl Zkb) fun f S => oe ?_))); obtain ⟨T, U, V⟩ := Zb H; refine ZP (fun f w => ∃ (e : Int) (k : Int) (m : Zd), (e, k) = T ∧ Zd.le j m ∧ St 25 b a [(0, .int .u64 (e)), (2, .int .i64 (k))] [] m f w ∧ inR .u64 e ∧ inR .i64 k) (fun _ A => ?_) ?_
  · have H := U; rcases Zx (decide ((65536 : Int) ≤ c)) with g | g
    · have H := Zw H g; refine ZH S rfl g (Zh fun _ W => ?_); obtain ⟨ai, B, H⟩ := Zb H; refine Zo (mv S rfl fun f S => ov S rfl (Zj S rfl rfl (ZAb B)) fun f S => mw S rfl fun f S => Zn (Zc (W _ _ ?_))); obtain ⟨aj, C, H⟩ := Zb H; refine Zo (mv S rfl fun f S => ov S rfl (Zj S rfl rfl (Zja C)) fun f S => mw S rfl fun f S => Zn ?_); obtain rfl := Zg H; refine Zc (A _ _ ⟨_, _, _, rfl, (leR _), (S.fr' rfl), (ZId v B), (Zha C).2⟩)
    have H := Zy H g; refine ZG S rfl g (wp_skip ?_); obtain rfl := Zg H; refine Zc (A _ _ ⟨_, _, _, rfl, (leR _), (S.fr' rfl), v, Q⟩)
  rintro f w ⟨e, k, m, hq, ak, S, D, X⟩; subst hq; have H := V; refine Zc (R _ _ (Zh fun _ Y => sr (mv S rfl fun f S => ov S rfl (Zj S rfl rfl Zkb) fun f S => oe ?_))); obtain ⟨Z, aa, ab⟩ := Zb H; refine ZP (fun f w => ∃ (n : Int) (o : Int) (p : Zd), (n, o) = Z ∧ Zd.le m p ∧ St 25 b a [(0, .int .u64 (n)), (2, .int .i64 (o))] [] p f w ∧ inR .u64 n ∧ inR .i64 o) (fun _ E => ?_) ?_
  · have H := aa; rcases Zx (decide ((256 : Int) ≤ e)) with h | h
    · have H := Zw H h; refine ZH S rfl h (Zh fun _ ac => ?_); obtain ⟨al, F, H⟩ := Zb H; refine Zo (mv S rfl fun f S => ov S rfl (Zj S rfl rfl (ZAb F)) fun f S => mw S rfl fun f S => Zn (Zc (ac _ _ ?_))); obtain ⟨am, G, H⟩ := Zb H; refine Zo (mv S rfl fun f S => ov S rfl (Zj S rfl rfl (Zja G)) fun f S => mw S rfl fun f S => Zn ?_); obtain rfl := Zg H; refine Zc (E _ _ ⟨_, _, _, rfl, (leR _), (S.fr' rfl), (ZId D F), (Zha G).2⟩)
    have H := Zy H h; refine ZG S rfl h (wp_skip ?_); obtain rfl := Zg H; refine Zc (E _ _ ⟨_, _, _, rfl, (leR _), (S.fr' rfl), D, X⟩)
  rintro f w ⟨n, o, p, hq, an, S, ao, ap⟩; subst hq; have H := ab; refine Zc (Y _ _ (Zh fun _ ad => ?_)); obtain ⟨aq, ae, H⟩ := Zb H; obtain ⟨af, I, H⟩ := Zb H; refine Zo (mv S rfl fun f S => mv S rfl fun f S => ov S rfl (ZKa S rfl (ZNk _)) fun f S => ov S rfl (Zxp S (l := ([0, 1, 2, 2, 3, 3, 3, 3, 4, 4, 4, 4, 4, 4, 4, 4, 5, 5, 5, 5, 5, 5, 5, 5, 5, 5, 5, 5, 5, 5, 5, 5, 6, 6, 6, 6, 6, 6, 6, 6, 6, 6, 6, 6, 6, 6, 6, 6, 6, 6, 6, 6, 6, 6, 6, 6, 6, 6, 6, 6, 6, 6, 6, 6, 7, 7, 7, 7, 7, 7, 7, 7, 7, 7, 7, 7, 7, 7, 7, 7, 7, 7, 7, 7, 7, 7, 7, 7, 7, 7, 7, 7, 7, 7, 7, 7, 7, 7, 7, 7, 7, 7, 7, 7, 7, 7, 7, 7, 7, 7, 7, 7, 7, 7, 7, 7, 7, 7, 7, 7, 7, 7, 7, 7, 7, 7, 7, 7, 8, 8, 8, 8, 8, 8, 8, 8, 8, 8, 8, 8, 8, 8, 8, 8, 8, 8, 8, 8, 8, 8, 8, 8, 8, 8, 8, 8, 8, 8, 8, 8, 8, 8, 8, 8, 8, 8, 8, 8, 8, 8, 8, 8, 8, 8, 8, 8, 8, 8, 8, 8, 8, 8, 8, 8, 8, 8, 8, 8, 8, 8, 8, 8, 8, 8, 8, 8, 8, 8, 8, 8, 8, 8, 8, 8, 8, 8, 8, 8, 8, 8, 8, 8, 8, 8, 8, 8, 8, 8, 8, 8, 8, 8, 8, 8, 8, 8, 8, 8, 8, 8, 8, 8, 8, 8, 8, 8, 8, 8, 8, 8, 8, 8, 8, 8, 8, 8, 8, 8, 8, 8, 8, 8, 8, 8, 8, 8] : List UInt8)) (by kernel_rfl) rfl Tryz.underlying9 ae) fun f S => ov S rfl (ZKa S rfl (k_cv5_3 _)) fun f S => ov S rfl (Zj S rfl rfl (Zja I)) fun f S => mw S rfl fun f S => Zn (Zc (ad _ _ (wp_ret ?_)))); obtain rfl := Zg H; refine ZB S (ZJ rfl (ZF S rfl)) ⟨[.int .i64 (af)], rfl, (Zq (Zha I).2)⟩
theorem len64_c {b : World} {a : Zd} (hv : VIn a b) {c : List Value} {x : Int} (e : Rep.rel (Za .u64) a c x) {z : Int} (hm : Zvh x = some z) :
    Ret Tryz.prog 196 #[(Za .u64).val c] b a (fun y v' => ∃ d, y = (Za .i64).val d ∧ (Za .i64).rel v' d z) :=
  len64_w hv e (Zxn hm)
theorem lz64_w {b : World} {a : Zd} (hv : VIn a b) {c : List Value} {x : Int} (g : Rep.rel (Za .u64) a c x) {z : Int} (H : Zvi x = some z) : Ret Tryz.prog 176 #[(Za .u64).val c] b a (fun y v' => ∃ d, y = (Za .i64).val d ∧ (Za .i64).rel v' d z) := by
  obtain ⟨rfl, h⟩ := g; refine ZQ (K := 6) (args := [.int .u64 (x)]) hv Tryz.func176 rfl rfl zl fun f S => ?_; unfold Zvi at H; refine sr (mw S rfl fun f S => oe (Zh fun _ i => ?_)); obtain ⟨m, j, H⟩ := Zb H; obtain ⟨k, e, H⟩ := Zb H; refine Zo (mv S rfl fun f S => opc S rfl (Zk S [.int .u64 (x)] k_en196 rfl rfl) (len64_c S.vin (show Rep.rel (Za .u64) _ [.int .u64 (x)] x from (Zq h)) j) ?_); rintro _ n f w o ⟨p, rfl, l⟩ S; obtain ⟨rfl, q⟩ := l; refine ov S rfl (Zj S rfl rfl (ZHa e)) fun f S => mw S rfl fun f S => Zn (Zc (i _ _ (wp_ret ?_))); obtain rfl := Zg H; refine ZB S (ZJ rfl (ZF S rfl)) ⟨[.int .i64 (k)], rfl, (Zq (Zha e).2)⟩
theorem Zsl {b : World} {a : Zd} (hv : VIn a b) {c : List Value} {x : Int} (e : Rep.rel (Za .u64) a c x) {z : Int} (hm : Z7d x = some z) :
    Ret Tryz.prog 176 #[(Za .u64).val c] b a (fun y v' => ∃ d, y = (Za .i64).val d ∧ (Za .i64).rel v' d z) :=
  lz64_w hv e (Z1p hm)
theorem div64_w {e : World} {c : Zd} (hv : VIn c e) {X : List Value} {hi : Int} (p0 : Rep.rel (Za .u64) c X hi) {c1 : List Value} {lo : Int} (p1 : Rep.rel (Za .u64) c c1 lo) {Y : List Value} {y : Int} (p2 : Rep.rel (Za .u64) c Y y) {z : Int × Int} (H : Z4g hi lo y = some z) : Ret Tryz.prog 190 #[(Za .u64).val X, (Za .u64).val c1, (Za .u64).val Y] e c (fun y v' => ∃ Z M, y = .tuple #[(Za .u64).val Z, (Za .u64).val M] ∧ (Za .u64).rel v' Z z.1 ∧ (Za .u64).rel v' M z.2) := by
  obtain ⟨rfl, M⟩ := p0; obtain ⟨rfl, r2⟩ := p1; obtain ⟨rfl, r3⟩ := p2; refine ZQ (K := 135) (args := [.int .u64 (hi), .int .u64 (lo), .int .u64 (y)]) hv Tryz.func190 rfl rfl zl fun f S => ?_; unfold Z4g at H; refine sr (mw S rfl fun f S => mw S rfl fun f S => oe (Zh fun _ an => sr (mv S rfl fun f S => ov S rfl (Zj S rfl rfl Z4) fun f S => oe ?_))); rcases Zx (y == ((0 : Int))) with q | q
  · have H := Zw H q; refine ZH S rfl q ?_
    cases H
  have H := Zy H q; refine ZG S rfl q (wp_skip (Zc (an _ _ (Zh fun _ ao => sr (mv S rfl fun f S => mv S rfl fun f S => ov S rfl (Zj S rfl rfl Z6c) fun f S => oe ?_))))); rcases Zx (decide (y ≤ hi)) with r | r
  · have H := Zw H r; refine ZH S rfl r ?_
    cases H
  have H := Zy H r; refine ZG S rfl r (wp_skip (Zc (ao _ _ (Zh fun _ ap => sr (mv S rfl fun f S => ov S rfl (Zj S rfl rfl Z4) fun f S => oe ?_))))); rcases Zx (hi == ((0 : Int))) with s | s
  · have H := Zw H s; refine ZH S rfl s (Zh fun _ aq => ?_); obtain ⟨ar, aa, H⟩ := Zb H; obtain ⟨au, N, H⟩ := Zb H; refine Zaa (fl := #[true, true, true, true, true, true, false, false]) Z9 (by kernel_rfl) S ?_; intro ops O F w S; refine rfa O F 0 rfl rfl S (Zr S rfl) fun f S => rfa O F 1 rfl rfl S (Zr S rfl) fun f S => rfa O F 2 rfl rfl S (Zj S rfl rfl (ZKb aa)) fun f S => rfa O F 3 rfl rfl S (Zr S rfl) fun f S => rfa O F 4 rfl rfl S (Zr S rfl) fun f S => rfa O F 5 rfl rfl S (Zj S rfl rfl (Zqc N)) fun f S => go1 O F 6 (nva [0, 1, 2] [3, 4, 5] O rfl rfl S (Zka S rfl) fun f S => ⟨(py S rfl rfl (Zr S rfl) (py S rfl rfl (Zr S rfl) (py S rfl rfl (Zj S rfl rfl (Zqc N)) Zl))), go1 O F 7 (nva [0, 1, 2, 3, 4, 5, 6] [] O rfl rfl S (Zka S rfl) fun f S => ⟨Zl, ZZ O F (Zc (aq _ _ ?_))⟩)⟩); refine wp_ret (ZR ?_); obtain rfl := Zg H; refine ZB S (ZGa rfl (ZF S rfl) (ZF S rfl)) ⟨[.int .u64 (ar)], [.int .u64 (au)], rfl, (Zq (Zjf aa)), (Zq (Zrj r2 N))⟩
  have H := Zy H s; refine ZG S rfl s (wp_skip (Zc (ap _ _ (Zh fun _ av => ?_)))); obtain ⟨h, aw, H⟩ := Zb H; refine Zo (mv S rfl fun f S => opc S rfl (Zk S [.int .u64 (y)] ZHm rfl rfl) (Zsl S.vin (show Rep.rel (Za .u64) _ [.int .u64 (y)] y from (Zq r3)) aw) ?_); rintro _ ab f w bd ⟨be, rfl, ax⟩ S; obtain ⟨rfl, bf⟩ := ax; refine ov S rfl (ZKa S rfl (ZLj _)) fun f S => mw S rfl fun f S => Zn (Zc (av _ _ (Zh fun _ ay => ?_))); obtain ⟨a, az, H⟩ := Zb H; refine Zo (mv S rfl fun f S => mv S rfl fun f S => ov S rfl (Zj S rfl rfl (Zce az)) fun f S => mw S rfl fun f S => Zn (Zc (ay _ _ (Zh fun _ aA => ?_)))); obtain ⟨g, aB, H⟩ := Zb H; refine Zo (mv S rfl fun f S => ov S rfl (Zj S rfl rfl (ZAb aB)) fun f S => mw S rfl fun f S => Zn (Zc (aA _ _ (sr (mv S rfl fun f S => ov S rfl (Zj S rfl rfl ZEf) fun f S => mw S rfl fun f S => oe (Zh fun _ aC => ?_)))))); obtain ⟨i, aD, H⟩ := Zb H; obtain ⟨j, aE, H⟩ := Zb H; refine Zo (mv S rfl fun f S => mv S rfl fun f S => ov S rfl (Zj S rfl rfl (Zce aD)) fun f S => mv S rfl fun f S => mv S rfl fun f S => ov S rfl (Zj S rfl rfl ZRd) fun f S => ov S rfl (Zj S rfl rfl (ZAb aE)) fun f S => ov S rfl (Zj S rfl rfl Z6e) fun f S => mw S rfl fun f S => Zn ?_); have S := S.fr' (σ' := [(1, .int .u64 (lo)), (2, .int .u64 (a)), (8, .int .u64 (IntKind.u64.wrap h)), (9, .int .u64 (g)), (10, .int .u64 (ZPa .u64 a ((4294967295 : Int)))), (11, .int .u64 (orI .u64 i j))]) rfl
  refine Zc (aC _ _ (Zh fun _ aF => ?_)); obtain ⟨k, aG, H⟩ := Zb H; refine Zo (mv S rfl fun f S => mv S rfl fun f S => ov S rfl (Zj S rfl rfl (Zce aG)) fun f S => mw S rfl fun f S => Zn (Zc (aF _ _ (Zh fun _ aH => ?_)))); obtain ⟨l, aI, H⟩ := Zb H; refine Zo (mv S rfl fun f S => ov S rfl (Zj S rfl rfl (ZAb aI)) fun f S => mw S rfl fun f S => Zn (Zc (aH _ _ (sr (mv S rfl fun f S => ov S rfl (Zj S rfl rfl ZEf) fun f S => mw S rfl fun f S => oe (Zh fun _ aJ => ?_)))))); obtain ⟨bg, ac, H⟩ := Zb H; refine Zo (mv S rfl fun f S => mv S rfl fun f S => ov S rfl (Zj S rfl rfl (ZKb ac)) fun f S => mw S rfl fun f S => Zn (Zc (aJ _ _ (sr (mv S rfl fun f S => mv S rfl fun f S => mv S rfl fun f S => ov S rfl (Zj S rfl rfl Z3b) fun f S => ov S rfl (Zj S rfl rfl ZRd) fun f S => mw S rfl fun f S => ?_))))); refine oe (Zh fun _ aK => ?_); obtain ⟨aL, aM, aN⟩ := Zb H; refine ZP (fun f w => ∃ (d : Int) (u : Zd), d = aL ∧ Zd.le ab u ∧ St 135 e c [(2, .int .u64 (a)), (8, .int .u64 (IntKind.u64.wrap h)), (9, .int .u64 (g)), (10, .int .u64 (ZPa .u64 a ((4294967295 : Int)))), (11, .int .u64 (orI .u64 i j)), (13, .int .u64 (l)), (14, .int .u64 (ZPa .u64 k ((4294967295 : Int)))), (15, .int .u64 (d))] [] u f w ∧ inR .u64 d) (fun _ ad => ?_) ?_
  · have H := aM; refine wp_block ?_; obtain ⟨bh, aO, ae⟩ := Zb H; refine Zxa aO (fun aP f w => ∃ (m : Int) (n : Int) (G : Zd), (m, n) = aP ∧ Zd.le ab G ∧ St 135 e c [(2, .int .u64 (a)), (8, .int .u64 (IntKind.u64.wrap h)), (9, .int .u64 (g)), (10, .int .u64 (ZPa .u64 a ((4294967295 : Int)))), (11, .int .u64 (orI .u64 i j)), (13, .int .u64 (l)), (14, .int .u64 (ZPa .u64 k ((4294967295 : Int)))), (15, .int .u64 (m)), (16, .int .u64 (n))] [] G f w ∧ inR .u64 m ∧ inR .u64 n) ⟨_, _, _, rfl, (leR _), (S.fr' rfl), (Zjf ac), (Zva _ _)⟩ ?_; rintro _ f w st ⟨m, n, G, hq, P, S, aQ, bi⟩ H bj aR af; subst hq; refine Zh fun _ aS => Zh fun _ aT => ?_; obtain ⟨aU, aV, aW⟩ := Zb H; refine ZP (fun f w => ∃ (I : Bool) (Q : Zd), I = aU ∧ Zd.le G Q ∧ St 135 e c [(2, .int .u64 (a)), (8, .int .u64 (IntKind.u64.wrap h)), (9, .int .u64 (g)), (10, .int .u64 (ZPa .u64 a ((4294967295 : Int)))), (11, .int .u64 (orI .u64 i j)), (13, .int .u64 (l)), (14, .int .u64 (ZPa .u64 k ((4294967295 : Int)))), (15, .int .u64 (m)), (16, .int .u64 (n)), (78, .bool (I))] [] Q f w) (fun _ ag => ?_) ?_
    · have H := aV; rcases Zx (decide ((4294967296 : Int) ≤ m)) with v | v
      · have H := Zw H v; refine Zo (mv S rfl fun f S => ov S rfl (Zj S rfl rfl Zkb) fun f S => ?_); have S := S.bool (t := 68) rfl v; refine mv S rfl fun f S => opn S rfl rfl rfl rfl fun f S => opn S rfl rfl rfl rfl fun f S => opn S rfl rfl rfl rfl fun f S => opn S rfl rfl rfl rfl fun f S => opn S rfl rfl rfl rfl fun f S => opn S rfl rfl rfl rfl fun f S => opn S rfl rfl rfl rfl fun f S => opn S rfl rfl rfl rfl fun f S => ov S rfl (ZD S (b := true) rfl rfl) fun f S => Zn ?_; obtain rfl := Zg H; refine Zc (ag _ _ ⟨_, _, rfl, (leR _), (S.fr' rfl)⟩)
      have H := Zy H v; refine Zo (mv S rfl fun f S => ov S rfl (Zj S rfl rfl Zkb) fun f S => ?_); have S := S.bool (t := 68) rfl v; refine mv S rfl fun f S => opy S rfl rfl rfl rfl (Zr S rfl) fun f S => opy S rfl rfl rfl rfl (Zr S rfl) fun f S => opy S rfl rfl rfl rfl (Zj S rfl rfl Z3b) fun f S => opy S rfl rfl rfl rfl (Zr S rfl) fun f S => opy S rfl rfl rfl rfl (Zj S rfl rfl Z3b) fun f S => opy S rfl rfl rfl rfl (Zr S rfl) fun f S => opy S rfl rfl rfl rfl (Zj S rfl rfl ZEb) fun f S => opy S rfl rfl rfl rfl (Zj S rfl rfl ZCa) fun f S => ov S rfl (ZD S (b := false) rfl rfl) fun f S => Zn ?_; obtain rfl := Zg H; refine Zc (ag _ _ ⟨_, _, rfl, (leR _), (S.fr' rfl)⟩)
    rintro f w ⟨I, Q, hq, R, S⟩; subst hq; have H := aW; refine Zc (aT _ _ ?_); rcases Zx (I) with x | x
    · have H := Zw H x; refine ZH S rfl x (wp_skip (Zc (aS _ _ (wp_block (sr (mv S rfl fun f S => ov S rfl (Zj S rfl rfl ZRd) fun f S => mw S rfl fun f S => oe (sr (mv S rfl fun f S => mv S rfl fun f S => ov S rfl (Zj S rfl rfl ZEb) fun f S => mw S rfl fun f S => ?_)))))))); refine oe (sr (mv S rfl fun f S => ov S rfl (Zj S rfl rfl Zkb) fun f S => oe ?_)); rcases Zx (decide ((4294967296 : Int) ≤ IntKind.u64.wrap (n + g))) with A | A
      · have H := Zw H A; refine ZH S rfl A (wp_exit (ZWh rfl ?_)); obtain rfl := Zg H; have hq := af _ rfl; subst hq; have H := ae; refine ZU (Zoa ?_); obtain rfl := Zg H; refine Zc (ad _ _ ⟨_, _, rfl, (leT (leT (leR _) P) R), (S.fr' rfl), (Zva _ _)⟩)
      have H := Zy H A; refine ZG S rfl A (wp_skip (Zua ?_)); obtain rfl := Zg H; refine aR _ rfl _ _ ⟨_, _, _, rfl, (leT P R), (S.fr' rfl), (Zva _ _), (Zva _ _)⟩
    have H := Zy H x; refine ZG S rfl x (wp_exit (ZU ?_)); obtain rfl := Zg H; have hq := af _ rfl; subst hq; have H := ae; refine ZU (Zoa ?_); obtain rfl := Zg H; refine Zc (ad _ _ ⟨_, _, rfl, (leT (leT (leR _) P) R), (S.fr' rfl), aQ⟩)
  rintro f w ⟨d, u, hq, bk, S, bm⟩; subst hq; have H := aN; refine Zc (aK _ _ (sr (mv S rfl fun f S => ov S rfl (Zj S rfl rfl Z3b) fun f S => mv S rfl fun f S => ov S rfl (Zj S rfl rfl ZEb) fun f S => mv S rfl fun f S => mv S rfl fun f S => ov S rfl (Zj S rfl rfl Z3b) fun f S => ov S rfl (Zj S rfl rfl ZRd) fun f S => mw S rfl fun f S => oe (Zh fun _ aX => ?_)))); obtain ⟨bn, ah, H⟩ := Zb H; refine Zo (mv S rfl fun f S => mv S rfl fun f S => ov S rfl (Zj S rfl rfl (ZKb ah)) fun f S => mw S rfl fun f S => Zn (Zc (aX _ _ (sr (mv S rfl fun f S => mv S rfl fun f S => mv S rfl fun f S => ov S rfl (Zj S rfl rfl Z3b) fun f S => ov S rfl (Zj S rfl rfl ZRd) fun f S => mw S rfl fun f S => ?_))))); refine oe (Zh fun _ aY => ?_); obtain ⟨aZ, a0, a1⟩ := Zb H; refine ZP (fun f w => ∃ (B : Int) (T : Zd), B = aZ ∧ Zd.le u T ∧ St 135 e c [(2, .int .u64 (a)), (8, .int .u64 (IntKind.u64.wrap h)), (14, .int .u64 (ZPa .u64 k ((4294967295 : Int)))), (15, .int .u64 (d)), (17, .int .u64 (IntKind.u64.wrap ((IntKind.u64.wrap ((IntKind.u64.wrap ((orI .u64 i j) * ((4294967296 : Int)))) + l)) - (IntKind.u64.wrap (d * a))))), (18, .int .u64 (B))] [] T f w ∧ inR .u64 B) (fun _ ai => ?_) ?_
  · have H := a0; refine wp_block ?_; obtain ⟨bo, a2, aj⟩ := Zb H; refine Zxa a2 (fun a3 f w => ∃ (o : Int) (p : Int) (J : Zd), (o, p) = a3 ∧ Zd.le u J ∧ St 135 e c [(2, .int .u64 (a)), (8, .int .u64 (IntKind.u64.wrap h)), (9, .int .u64 (g)), (10, .int .u64 (ZPa .u64 a ((4294967295 : Int)))), (14, .int .u64 (ZPa .u64 k ((4294967295 : Int)))), (15, .int .u64 (d)), (16, .int .u64 (o)), (17, .int .u64 (IntKind.u64.wrap ((IntKind.u64.wrap ((IntKind.u64.wrap ((orI .u64 i j) * ((4294967296 : Int)))) + l)) - (IntKind.u64.wrap (d * a))))), (18, .int .u64 (p))] [] J f w ∧ inR .u64 o ∧ inR .u64 p) ⟨_, _, _, rfl, (leR _), (S.fr' rfl), (Zva _ _), (Zjf ah)⟩ ?_; rintro _ f w st ⟨o, p, J, hq, U, S, bp, a4⟩ H bq a5 ak; subst hq; refine Zh fun _ a6 => Zh fun _ a7 => ?_; obtain ⟨a8, a9, ba⟩ := Zb H; refine ZP (fun f w => ∃ (L : Bool) (V : Zd), L = a8 ∧ Zd.le J V ∧ St 135 e c [(2, .int .u64 (a)), (8, .int .u64 (IntKind.u64.wrap h)), (9, .int .u64 (g)), (10, .int .u64 (ZPa .u64 a ((4294967295 : Int)))), (14, .int .u64 (ZPa .u64 k ((4294967295 : Int)))), (15, .int .u64 (d)), (16, .int .u64 (o)), (17, .int .u64 (IntKind.u64.wrap ((IntKind.u64.wrap ((IntKind.u64.wrap ((orI .u64 i j) * ((4294967296 : Int)))) + l)) - (IntKind.u64.wrap (d * a))))), (18, .int .u64 (p)), (113, .bool (L))] [] V f w) (fun _ al => ?_) ?_
    · have H := a9; rcases Zx (decide ((4294967296 : Int) ≤ p)) with C | C
      · have H := Zw H C; refine Zo (mv S rfl fun f S => ov S rfl (Zj S rfl rfl Zkb) fun f S => ?_); have S := S.bool (t := 103) rfl C; refine mv S rfl fun f S => opn S rfl rfl rfl rfl fun f S => opn S rfl rfl rfl rfl fun f S => opn S rfl rfl rfl rfl fun f S => opn S rfl rfl rfl rfl fun f S => opn S rfl rfl rfl rfl fun f S => opn S rfl rfl rfl rfl fun f S => opn S rfl rfl rfl rfl fun f S => opn S rfl rfl rfl rfl fun f S => ov S rfl (ZD S (b := true) rfl rfl) fun f S => Zn ?_; obtain rfl := Zg H; refine Zc (al _ _ ⟨_, _, rfl, (leR _), (S.fr' rfl)⟩)
      have H := Zy H C; refine Zo (mv S rfl fun f S => ov S rfl (Zj S rfl rfl Zkb) fun f S => ?_); have S := S.bool (t := 103) rfl C; refine mv S rfl fun f S => opy S rfl rfl rfl rfl (Zr S rfl) fun f S => opy S rfl rfl rfl rfl (Zr S rfl) fun f S => opy S rfl rfl rfl rfl (Zj S rfl rfl Z3b) fun f S => opy S rfl rfl rfl rfl (Zr S rfl) fun f S => opy S rfl rfl rfl rfl (Zj S rfl rfl Z3b) fun f S => opy S rfl rfl rfl rfl (Zr S rfl) fun f S => opy S rfl rfl rfl rfl (Zj S rfl rfl ZEb) fun f S => opy S rfl rfl rfl rfl (Zj S rfl rfl ZCa) fun f S => ov S rfl (ZD S (b := false) rfl rfl) fun f S => Zn ?_; obtain rfl := Zg H; refine Zc (al _ _ ⟨_, _, rfl, (leR _), (S.fr' rfl)⟩)
    rintro f w ⟨L, V, hq, W, S⟩; subst hq; have H := ba; refine Zc (a7 _ _ ?_); rcases Zx (L) with D | D
    · have H := Zw H D; refine ZH S rfl D (wp_skip (Zc (a6 _ _ (wp_block (sr (mv S rfl fun f S => ov S rfl (Zj S rfl rfl ZRd) fun f S => mw S rfl fun f S => oe (sr (mv S rfl fun f S => mv S rfl fun f S => ov S rfl (Zj S rfl rfl ZEb) fun f S => mw S rfl fun f S => ?_)))))))); refine oe (sr (mv S rfl fun f S => ov S rfl (Zj S rfl rfl Zkb) fun f S => oe ?_)); rcases Zx (decide ((4294967296 : Int) ≤ IntKind.u64.wrap (o + g))) with E | E
      · have H := Zw H E; refine ZH S rfl E (wp_exit (ZWh rfl ?_)); obtain rfl := Zg H; have hq := ak _ rfl; subst hq; have H := aj; refine ZU (Zoa ?_); obtain rfl := Zg H; refine Zc (ai _ _ ⟨_, _, rfl, (leT (leT (leR _) U) W), (S.fr' rfl), (Zva _ _)⟩)
      have H := Zy H E; refine ZG S rfl E (wp_skip (Zua ?_)); obtain rfl := Zg H; refine a5 _ rfl _ _ ⟨_, _, _, rfl, (leT U W), (S.fr' rfl), (Zva _ _), (Zva _ _)⟩
    have H := Zy H D; refine ZG S rfl D (wp_exit (ZU ?_)); obtain rfl := Zg H; have hq := ak _ rfl; subst hq; have H := aj; refine ZU (Zoa ?_); obtain rfl := Zg H; refine Zc (ai _ _ ⟨_, _, rfl, (leT (leT (leR _) U) W), (S.fr' rfl), a4⟩)
  rintro f w ⟨B, T, hq, br, S, bs⟩; subst hq; have H := a1; refine Zc (aY _ _ (Zh fun _ bb => ?_)); obtain ⟨bc, am, H⟩ := Zb H; refine Zo (mv S rfl fun f S => ov S rfl (Zj S rfl rfl Z3b) fun f S => mv S rfl fun f S => ov S rfl (Zj S rfl rfl ZEb) fun f S => mv S rfl fun f S => ov S rfl (Zj S rfl rfl Z3b) fun f S => mv S rfl fun f S => ov S rfl (Zj S rfl rfl ZEb) fun f S => mv S rfl fun f S => mv S rfl fun f S => ov S rfl (Zj S rfl rfl Z3b) fun f S => ov S rfl (Zj S rfl rfl ZRd) fun f S => mv S rfl fun f S => ?_); refine ov S rfl (Zj S rfl rfl (ZAb am)) fun f S => mw S rfl fun f S => mw S rfl fun f S => Zn (Zc (bb _ _ (wp_ret ?_))); obtain rfl := Zg H; refine ZB S (ZGa rfl (ZF S rfl) (ZF S rfl)) ⟨[.int .u64 (IntKind.u64.wrap ((IntKind.u64.wrap (d * ((4294967296 : Int)))) + B))], [.int .u64 (bc)], rfl, (Zq (Zva _ _)), (Zq (ZId (Zva _ _) am))⟩
theorem ZJl {b : World} {a : Zd} (hv : VIn a b) {c : List Value} {hi : Int} (g : Rep.rel (Za .u64) a c hi) {c1 : List Value} {lo : Int} (h : Rep.rel (Za .u64) a c1 lo) {d : List Value} {y : Int} (i : Rep.rel (Za .u64) a d y) {z : Int × Int} (hm : ZPd hi lo y = some z) :
    Ret Tryz.prog 190 #[(Za .u64).val c, (Za .u64).val c1, (Za .u64).val d] b a (fun y v' => ∃ e f, y = Value.tuple #[(Za .u64).val e, (Za .u64).val f] ∧ (Za .u64).rel v' e z.1 ∧ (Za .u64).rel v' f z.2) :=
  div64_w hv g h i (ZYp hm)
theorem ZVo {E : World} {d : Zd} (hv : VIn d E) {R : List Value} {a : Nat} (g : Rep.rel ZC d R a) {c1 : List Value} {n : Int} (p1 : Rep.rel (Za .u64) d c1 n) {z : Nat × Int} (H : Zlg a n = some z) : Ret Tryz.prog 167 #[ZC.val R, (Za .u64).val c1] E d (fun y v' => ∃ T U, y = .tuple #[ZC.val T, (Za .u64).val U] ∧ ZC.rel v' T z.1 ∧ (Za .u64).rel v' U z.2) := by
  obtain ⟨V, W, X, rfl⟩ := Z3 g; obtain ⟨rfl, r4⟩ := p1; refine ZQ (K := 35) (args := [.slice V W X, .int .u64 (n)]) hv Tryz.func167 rfl rfl zl fun f S => ?_; unfold Zlg at H; refine sr (mw S rfl fun f S => mw S rfl fun f S => oe (Zh fun _ ag => ?_)); obtain ⟨y9, F, H⟩ := Zb H; refine Zo (mv S rfl fun f S => ov S rfl (ZL S (Zz g) rfl rfl ZS) fun f S => ?_); obtain ⟨Y, Z⟩ : ∃ c : List Value, c = (List.replicate ((((Zi 18446744073709551616 a)).length : Int)).toNat [.int .u64 ((0 : Int))]).flatten := ⟨_, rfl⟩; obtain ⟨ah, w, ai, S⟩ := Zac ZJc S (l := (((Zi 18446744073709551616 a)).length : Int)) (c := (((Zi 18446744073709551616 a)).length : Int)) (Zea F).1 (Zea F).2.1 (Zea F).2.2.1 (Zea F).2.2.2 Z; have aj : Rep.rels (Za .u64) d Y (List.replicate ((((Zi 18446744073709551616 a)).length : Int)).toNat ((0 : Int))) := by rw [Z]; exact ZQb (show Rep.rel (Za .u64) _ [.int .u64 ((0 : Int))] _ from (Zq (by decide))) _
  refine Zna wn rfl zl (ai rfl rfl) S fun f S => mw S rfl fun f S => Zn (Zc (ag _ _ (sr (mw S rfl fun f S => oe (Zh fun _ ak => Zh fun _ al => ?_))))); obtain ⟨aU, aa, H⟩ := Zb H; refine Zo (mv S rfl fun f S => ov S rfl (ZL S (Zz g) rfl rfl ZS) fun f S => ov S rfl (Zj S rfl rfl (ZHa aa)) fun f S => mw S rfl fun f S => Zn (Zc (al _ _ ?_))); obtain ⟨am, an, ao⟩ := Zb H; refine ZP (fun f w => ∃ (o : (List Int)) (s : Int) (t : Option Nat) (p : Nat) (u : Nat) (L : List Value) (G : Zd), (o, s) = am ∧ Zd.le d G ∧ St 35 E d [(6, .slice (mkA t) (p) u), (7, .int .u64 (s))] [Loc.own t 211 1 (p) u L] G f w ∧ Rep.rels (Za .u64) G L o ∧ p = o.length ∧ inR .u64 s) (fun _ ap => ?_) ?_
  · have H := an; refine wp_block ?_; obtain ⟨aV, aq, ar⟩ := Zb H; refine Zxa aq (fun au f w => ∃ (q : (List Int)) (h : Int) (b : Int) (I : Option Nat) (k : Nat) (v : Nat) (e : List Value) (J : Zd), (q, h, b) = au ∧ Zd.le d J ∧ St 35 E d [(0, .slice V W X), (1, .int .u64 (n)), (6, .slice (mkA I) (k) v), (7, .int .u64 (h)), (8, .int .i64 (b))] [Loc.own I 211 1 (k) v e] J f w ∧ Rep.rels (Za .u64) J e q ∧ k = q.length ∧ inR .u64 h ∧ inR .i64 b) ⟨_, _, _, some ah, ((((Zi 18446744073709551616 a)).length : Int)).toNat, ((((Zi 18446744073709551616 a)).length : Int)).toNat, Y, _, rfl, (leR _), (S.fr' rfl), aj, (Zyb (x := (0 : Int))), (by decide), (Zha aa).2⟩ ?_; rintro _ f w st ⟨q, h, b, I, k, v, e, J, hq, M, S, B, C, ab, aW⟩ H aX av aw; subst hq; refine Zh fun _ ax => sr (mv S rfl fun f S => ov S rfl (Zj S rfl rfl Zkb) fun f S => oe ?_); rcases Zx (decide ((0 : Int) ≤ b)) with D | D
    · have H := Zw H D; refine ZH S rfl D (wp_skip (Zc (ax _ _ (Zh fun _ ay => wp_block ?_)))); obtain ⟨N, O, H⟩ := Zb H; obtain ⟨m, az, H⟩ := Zb H; obtain ⟨aY, r, H⟩ := Zb H; refine Zo (mv S rfl fun f S => mv S rfl fun f S => mv S rfl fun f S => mv S rfl fun f S => mv S rfl fun f S => ?_); have g := Zp M g; obtain ⟨_, aZ, a0, a1, rfl, P, aA⟩ := Zta g (Zm O).2.1; obtain ⟨rfl, aB⟩ := aA; refine ov S rfl (ZW S rfl rfl ZS (Zm O).1 (ltI (Zz g) (Zm O).2.2.1)) fun f S => ov S rfl (Z7 S rfl Zya (S.view P)) fun f S => mv S rfl fun f S => opc S rfl (Zk S [.int .u64 (h), .int .u64 (N), .int .u64 (n)] Z4k rfl rfl) (ZJl S.vin (show Rep.rel (Za .u64) _ [.int .u64 (h)] h from (Zq ab)) (show Rep.rel (Za .u64) _ [.int .u64 (N)] N from (Zq aB)) (show Rep.rel (Za .u64) _ [.int .u64 (n)] n from (Zq r4)) az) ?_; rintro _ ac f w Q ⟨a2, a3, rfl, aC, aD⟩ S; have B := ZX Q B; have P := Atm Q P; obtain ⟨rfl, aE⟩ := aC; obtain ⟨rfl, aF⟩ := aD; refine mv S rfl fun f S => ov S rfl (ZN S rfl rfl) fun f S => ov S rfl (ZN S rfl rfl) fun f S => ?_; obtain ⟨aG, rfl⟩ := ZSb S (j := 0) rfl (Z1b C (Zm r).2.2.2); have ad := ZIa B (Zm r).2.1; obtain ⟨a4, aH⟩ : ∃ c, (List.take (Za .u64).n (List.drop ((b).toNat * (Za .u64).n) e)) = c := ⟨_, rfl⟩
      rw [aH] at ad; obtain ⟨rfl, a5⟩ := ad; refine ov S rfl (ZW S rfl rfl ZS (Zm r).1 (ltI C (Zm r).2.2.1)) fun f S => ?_; obtain ⟨w, aI, S⟩ := ZRb S Zya (off := 0 + (b).toNat * 1) (z := .int .u64 (m.1)) (cs := [.int .u64 (m.1)]) (Zwb rfl) rfl (i := 0) rfl (ZUb S (j := 0) rfl (ltN C (Zm r).2.2.2)) (by first | rfl | simp [ZSa]); have aJ : Rep.rels (Za .u64) ac (List.take (0 + (b).toNat * 1) e ++ [Value.int IntKind.u64 (m.1)] ++ List.drop (0 + (b).toNat * 1 + 1) e) (q.set (b).toNat m.1) := ZIb B (Zm r).2.2.2 (show Rep.rel (Za .u64) ac [.int .u64 (m.1)] _ from (Zq aE)) rfl rfl; have aK : k = (q.set (b).toNat m.1).length := ZGb C; refine Z1 wn rfl (aI rfl rfl) (mw S rfl fun f S => Zn (Zua (Zc (ay _ _ ?_)))); obtain ⟨a6, ae, H⟩ := Zb H; refine Zo (mv S rfl fun f S => ov S rfl (Zj S rfl rfl (ZHa ae)) fun f S => mw S rfl fun f S => Zn ?_); obtain rfl := Zg H; refine av _ rfl _ _ ⟨_, _, _, some aG, k, v, (List.take (0 + (b).toNat * 1) e ++ [Value.int IntKind.u64 (m.1)] ++ List.drop (0 + (b).toNat * 1 + 1) e), _, rfl, (leT M Q), (S.fr' rfl), aJ, aK, aF, (Zha ae).2⟩
    have H := Zy H D; refine ZG S rfl D (wp_exit (ZU ?_)); obtain rfl := Zg H; have hq := aw _ rfl; subst hq; have H := ar; refine ZU (Zoa ?_); obtain rfl := Zg H; refine Zc (ap _ _ ⟨_, _, I, k, v, e, _, rfl, (leT (leR _) M), (S.fr' rfl), B, C, ab⟩)
  rintro f w ⟨o, s, t, p, u, L, G, hq, a7, S, aL, aM, aN⟩; subst hq; have H := ao; refine Zc (ak _ _ (Zh fun _ aO => ?_)); obtain ⟨a8, aP, H⟩ := Zb H; refine Zo (mv S rfl fun f S => ?_); obtain ⟨a9, ba, S, aQ⟩ := S.pubSlice (i := 0) (A := (Za .u64)) (l := o) (ℓ' := []) rfl rfl aM aL rfl; refine opc S rfl (Zk S [.slice (mkA t) (p) u] ZEd rfl rfl) (ZKd S.vin (show Rep.rel (ZA (Za .u64)) _ [.slice (mkA t) (p) u] o from aQ) aP) ?_; rintro _ bb f w bc ⟨bd, rfl, af⟩ S; obtain ⟨aR, aS, aT, rfl⟩ := Z3 af; refine mv S rfl fun f S => mw S rfl fun f S => mw S rfl fun f S => Zn (Zc (aO _ _ (wp_ret ?_))); obtain rfl := Zg H; refine ZB S (ZGa rfl (ZF S rfl) (ZF S rfl)) ⟨[.slice aR aS aT], [.int .u64 (s)], rfl, af, (Zq aN)⟩
theorem Znm {c : World} {b : Zd} (hv : VIn b c) {d : List Value} {a : Nat} (h : Rep.rel ZC b d a) {c1 : List Value} {n : Int} (e : Rep.rel (Za .u64) b c1 n) {z : Nat × Int} (hm : Z5d a n = some z) :
    Ret Tryz.prog 167 #[ZC.val d, (Za .u64).val c1] c b (fun y v' => ∃ f g, y = Value.tuple #[ZC.val f, (Za .u64).val g] ∧ ZC.rel v' f z.1 ∧ (Za .u64).rel v' g z.2) :=
  ZVo hv h e (ZVm e.2 hm)
theorem cmp_w {m : World} {e : Zd} (hv : VIn e m) {A : List Value} {a : (List Int)} (c : Rep.rel (ZA (Za .u64)) e A a) {c1 : List Value} {b : (List Int)} (d : Rep.rel (ZA (Za .u64)) e c1 b) {z : Int} (H : ZBi a b = some z) : Ret Tryz.prog 87 #[(ZA (Za .u64)).val A, (ZA (Za .u64)).val c1] m e (fun y v' => ∃ B, y = (Za .i64).val B ∧ (Za .i64).rel v' B z) := by
  obtain ⟨C, D, E, rfl⟩ := ZTa c; obtain ⟨G, I, J, rfl⟩ := ZTa d; refine ZQ (K := 41) (args := [.slice C (D) E, .slice G (I) J]) hv Tryz.func87 rfl rfl zl fun f S => ?_; unfold ZBi at H; refine sr (mw S rfl fun f S => oe (Zh fun _ N => sr (mv S rfl fun f S => ov S rfl (ZL S (Zz c) rfl rfl ZS) fun f S => mv S rfl fun f S => ov S rfl (ZL S (Zz d) rfl rfl ZS) fun f S => ov S rfl (Zj S rfl rfl Zdc) fun f S => oe ?_))); rcases Zx (((a.length : Int)) != ((b.length : Int))) with g | g
  · have H := Zw H g; refine ZH S rfl g (Zh fun _ P => sr (mv S rfl fun f S => ov S rfl (ZL S (Zz c) rfl rfl ZS) fun f S => mv S rfl fun f S => ov S rfl (ZL S (Zz d) rfl rfl ZS) fun f S => ov S rfl (Zj S rfl rfl Zfa) fun f S => oe ?_)); rcases Zx (decide ((a.length : Int) < (b.length : Int))) with h | h
    · have H := Zw H h; refine ZH S rfl h (sr (mw S rfl fun f S => oe (wp_ret (ZR (ZR ?_))))); obtain rfl := Zg H; refine ZB S (ZJ rfl (ZF S rfl)) ⟨[.int .i64 ((-1 : Int))], rfl, (Zq (by decide))⟩
    have H := Zy H h; refine ZG S rfl h (wp_skip (Zc (P _ _ (sr (mw S rfl fun f S => oe (wp_ret (ZR ?_))))))); obtain rfl := Zg H; refine ZB S (ZJ rfl (ZF S rfl)) ⟨[.int .i64 ((1 : Int))], rfl, (Zq (by decide))⟩
  have H := Zy H g; refine ZG S rfl g (wp_skip (Zc (N _ _ (Zh fun _ Q => Zh fun _ R => ?_)))); obtain ⟨aq, L, H⟩ := Zb H; refine Zo (mv S rfl fun f S => ov S rfl (ZL S (Zz c) rfl rfl ZS) fun f S => ov S rfl (Zj S rfl rfl (ZHa L)) fun f S => mw S rfl fun f S => Zn (Zc (R _ _ ?_))); obtain ⟨T, U, o⟩ := Zb H; refine ZP (fun f w => ∃  (p : Zd), (.inl (())) = T ∧ Zd.le e p ∧ St 41 m e [] [] p f w) (fun _ V => ?_) ?_
  · have H := U; refine wp_block ?_; obtain ⟨ar, W, q⟩ := Zb H; refine Zxa W (fun X f w => ∃ (i : Int) (r : Zd), i = X ∧ Zd.le e r ∧ St 41 m e [(0, .slice C (D) E), (1, .slice G (I) J), (5, .int .i64 (i))] [] r f w ∧ inR .i64 i) ⟨_, _, rfl, (leR _), (S.fr' rfl), (Zha L).2⟩ ?_; rintro _ f w st ⟨i, r, hq, n, S, au⟩ H av Y s; subst hq; refine Zh fun _ Z => sr (mv S rfl fun f S => ov S rfl (Zj S rfl rfl Zkb) fun f S => oe ?_); rcases Zx (decide ((0 : Int) ≤ i)) with j | j
    · have H := Zw H j; refine ZH S rfl j (wp_skip (Zc (Z _ _ (Zh fun _ aa => wp_block (Zh fun _ ab => Zh fun _ ac => ?_))))); obtain ⟨ad, t, H⟩ := Zb H; obtain ⟨ae, u, H⟩ := Zb H; refine Zaa (fl := #[true, true, true, true, true, true, true, true, true]) Z9 (by kernel_rfl) S ?_; intro ops O F w S; refine rfa O F 0 rfl rfl S (Zr S rfl) fun f S => rfa O F 1 rfl rfl S (Zr S rfl) fun f S => ?_; have c := Zp n c; obtain ⟨_, aw, ax, ay, rfl, af, ag⟩ := Zta c (Zm t).2.1; obtain ⟨rfl, az⟩ := ag; refine rfa O F 2 rfl rfl S (ZW S rfl rfl ZS (Zm t).1 (ltI (Zz c) (Zm t).2.2.1)) fun f S => rfa O F 3 rfl rfl S (Z7 S rfl Zya (S.view af)) fun f S => rfa O F 4 rfl rfl S (Zr S rfl) fun f S => rfa O F 5 rfl rfl S (Zr S rfl) fun f S => ?_; have d := Zp n d; obtain ⟨_, aA, aB, aC, rfl, ah, ai⟩ := Zta d (Zm u).2.1; obtain ⟨rfl, aD⟩ := ai; refine rfa O F 6 rfl rfl S (ZW S rfl rfl ZS (Zm u).1 (ltI (Zz d) (Zm u).2.2.1)) fun f S => rfa O F 7 rfl rfl S (Z7 S rfl Zya (S.view ah)) fun f S => rfa O F 8 rfl rfl S (Zj S rfl rfl Zfa) fun f S => ZZ O F (Zc (ac _ _ ?_)); rcases Zx (decide (ad < ae)) with k | k
      · have H := Zw H k; refine ZH S rfl k (sr (mw S rfl fun f S => oe (wp_ret (ZR (Z9a (ZR ?_)))))); obtain rfl := Zg H; have hq := s _ rfl; subst hq; have H := q; refine ZR (Z9a ?_); obtain rfl := Zg H; have H := o; refine ZR (ZR ?_); obtain rfl := Zg H; refine ZB S (ZJ rfl (ZF S rfl)) ⟨[.int .i64 ((-1 : Int))], rfl, (Zq (by decide))⟩
      have H := Zy H k; refine ZG S rfl k (wp_skip (Zc (ab _ _ (Zh fun _ aj => ?_)))); obtain ⟨ak, v, H⟩ := Zb H; obtain ⟨al, x, H⟩ := Zb H; refine Zaa (fl := #[true, true, true, true, true, true, true, true, true]) Z9 (by kernel_rfl) S ?_; intro ops O F w S; refine rfa O F 0 rfl rfl S (Zr S rfl) fun f S => rfa O F 1 rfl rfl S (Zr S rfl) fun f S => ?_; obtain ⟨aE, am, an⟩ := Zkd c (Zm v).2.1; obtain ⟨rfl, aF⟩ := an; refine rfa O F 2 rfl rfl S (ZW S rfl rfl ZS (Zm v).1 (ltI (Zz c) (Zm v).2.2.1)) fun f S => rfa O F 3 rfl rfl S (Z7 S rfl Zya (S.view am)) fun f S => rfa O F 4 rfl rfl S (Zr S rfl) fun f S => rfa O F 5 rfl rfl S (Zr S rfl) fun f S => ?_; obtain ⟨aG, ao, ap⟩ := Zkd d (Zm x).2.1; obtain ⟨rfl, aH⟩ := ap; refine rfa O F 6 rfl rfl S (ZW S rfl rfl ZS (Zm x).1 (ltI (Zz d) (Zm x).2.2.1)) fun f S => rfa O F 7 rfl rfl S (Z7 S rfl Zya (S.view ao)) fun f S => rfa O F 8 rfl rfl S (Zj S rfl rfl ZCa) fun f S => ZZ O F (Zc (aj _ _ ?_)); rcases Zx (decide (al < ak)) with l | l
      · have H := Zw H l; refine ZH S rfl l (sr (mw S rfl fun f S => oe (wp_ret (Z9a (ZR ?_))))); obtain rfl := Zg H; have hq := s _ rfl; subst hq; have H := q; refine ZR (Z9a ?_); obtain rfl := Zg H; have H := o; refine ZR (ZR ?_); obtain rfl := Zg H; refine ZB S (ZJ rfl (ZF S rfl)) ⟨[.int .i64 ((1 : Int))], rfl, (Zq (by decide))⟩
      have H := Zy H l; refine ZG S rfl l (wp_skip (Zua (Zc (aa _ _ ?_)))); obtain ⟨aI, M, H⟩ := Zb H; refine Zo (mv S rfl fun f S => ov S rfl (Zj S rfl rfl (ZHa M)) fun f S => mw S rfl fun f S => Zn ?_); obtain rfl := Zg H; refine Y _ rfl _ _ ⟨_, _, rfl, n, (S.fr' rfl), (Zha M).2⟩
    have H := Zy H j; refine ZG S rfl j (wp_exit (ZU ?_)); obtain rfl := Zg H; have hq := s _ rfl; subst hq; have H := q; refine ZU (Zoa ?_); obtain rfl := Zg H; refine Zc (V _ _ ⟨_, rfl, (leT (leR _) n), (S.fr' rfl)⟩)
  rintro f w ⟨p, hq, aJ, S⟩; subst hq; have H := o; refine Zc (Q _ _ (sr (mw S rfl fun f S => oe (wp_ret ?_)))); obtain rfl := Zg H; refine ZB S (ZJ rfl (ZF S rfl)) ⟨[.int .i64 ((0 : Int))], rfl, (Zq (by decide))⟩
theorem cmp_c {d : World} {c : Zd} (hv : VIn c d) {e : List Value} {a : Nat} (f : Rep.rel ZC c e a) {c1 : List Value} {b : Nat} (g : Rep.rel ZC c c1 b) {z : Int} (hm : cmpF a b = some z) :
    Ret Tryz.prog 87 #[ZC.val e, ZC.val c1] d c (fun y v' => ∃ h, y = (Za .i64).val h ∧ (Za .i64).rel v' h z) :=
  cmp_w hv f g ((cmp_eq (Zum f) (Zum g)).trans hm)
theorem mul64_w {e : World} {a : Zd} (hv : VIn a e) {g : List Value} {x : Int} (k : Rep.rel (Za .u64) a g x) {c1 : List Value} {y : Int} (l : Rep.rel (Za .u64) a c1 y) {z : Int × Int} (H : Zzg x y = some z) : Ret Tryz.prog 147 #[(Za .u64).val g, (Za .u64).val c1] e a (fun y v' => ∃ h c, y = .tuple #[(Za .u64).val h, (Za .u64).val c] ∧ (Za .u64).rel v' h z.1 ∧ (Za .u64).rel v' c z.2) := by
  obtain ⟨rfl, c⟩ := k; obtain ⟨rfl, A⟩ := l; refine ZQ (K := 51) (args := [.int .u64 (x), .int .u64 (y)]) hv Tryz.func147 rfl rfl zl fun f S => ?_; unfold Zzg at H; refine sr (mw S rfl fun f S => mw S rfl fun f S => oe (sr (mv S rfl fun f S => ov S rfl (Zj S rfl rfl ZEf) fun f S => mw S rfl fun f S => oe (Zh fun _ m => ?_)))); obtain ⟨b, n, H⟩ := Zb H; refine Zo (mv S rfl fun f S => ov S rfl (Zj S rfl rfl (ZAb n)) fun f S => mw S rfl fun f S => Zn (Zc (m _ _ (sr (mv S rfl fun f S => ov S rfl (Zj S rfl rfl ZEf) fun f S => mw S rfl fun f S => oe (Zh fun _ o => ?_)))))); obtain ⟨d, p, H⟩ := Zb H; refine Zo (mv S rfl fun f S => ov S rfl (Zj S rfl rfl (ZAb p)) fun f S => mw S rfl fun f S => Zn (Zc (o _ _ (sr (mv S rfl fun f S => mv S rfl fun f S => ov S rfl (Zj S rfl rfl Z3b) fun f S => mw S rfl fun f S => oe (Zh fun _ q => ?_)))))); obtain ⟨r, s, H⟩ := Zb H; refine Zo (mv S rfl fun f S => mv S rfl fun f S => ov S rfl (Zj S rfl rfl Z3b) fun f S => mv S rfl fun f S => ov S rfl (Zj S rfl rfl (ZAb s)) fun f S => ov S rfl (Zj S rfl rfl ZEb) fun f S => mw S rfl fun f S => Zn ?_); have S := S.fr' (σ' := [(0, .int .u64 (x)), (1, .int .u64 (y)), (6, .int .u64 (ZPa .u64 x ((4294967295 : Int)))), (7, .int .u64 (b)), (9, .int .u64 (d)), (11, .int .u64 (IntKind.u64.wrap ((IntKind.u64.wrap (b * (ZPa .u64 y ((4294967295 : Int))))) + r)))]) rfl
  refine Zc (q _ _ (sr (mv S rfl fun f S => ov S rfl (Zj S rfl rfl ZEf) fun f S => mw S rfl fun f S => oe (Zh fun _ t => ?_)))); obtain ⟨i, u, H⟩ := Zb H; refine Zo (mv S rfl fun f S => ov S rfl (Zj S rfl rfl (ZAb u)) fun f S => mw S rfl fun f S => Zn (Zc (t _ _ (sr (mv S rfl fun f S => mv S rfl fun f S => mv S rfl fun f S => ov S rfl (Zj S rfl rfl Z3b) fun f S => ov S rfl (Zj S rfl rfl ZEb) fun f S => mw S rfl fun f S => oe ?_))))); refine Zh fun _ v => ?_; obtain ⟨j, w, H⟩ := Zb H; refine Zo (mv S rfl fun f S => mv S rfl fun f S => ov S rfl (Zj S rfl rfl Z3b) fun f S => mv S rfl fun f S => ov S rfl (Zj S rfl rfl ZEb) fun f S => mv S rfl fun f S => ov S rfl (Zj S rfl rfl (ZAb w)) fun f S => ov S rfl (Zj S rfl rfl ZEb) fun f S => mw S rfl fun f S => Zn (Zc (v _ _ (sr (mv S rfl fun f S => ?_))))); refine mv S rfl fun f S => ov S rfl (Zj S rfl rfl Z3b) fun f S => mw S rfl fun f S => ?_; have S := S.fr' (σ' := [(4, .int .u64 (IntKind.u64.wrap ((IntKind.u64.wrap ((IntKind.u64.wrap (b * d)) + i)) + j))), (5, .int .u64 (IntKind.u64.wrap (x * y)))]) rfl; refine oe (wp_ret ?_); obtain rfl := Zg H; refine ZB S (ZGa rfl (ZF S rfl) (ZF S rfl)) ⟨[.int .u64 (IntKind.u64.wrap ((IntKind.u64.wrap ((IntKind.u64.wrap (b * d)) + i)) + j))], [.int .u64 (IntKind.u64.wrap (x * y))], rfl, (Zq (Zva _ _)), (Zq (Zva _ _))⟩
theorem Znk {b : World} {a : Zd} (hv : VIn a b) {c : List Value} {x : Int} (f : Rep.rel (Za .u64) a c x) {c1 : List Value} {y : Int} (g : Rep.rel (Za .u64) a c1 y) {z : Int × Int} (hm : ZMd x y = some z) :
    Ret Tryz.prog 147 #[(Za .u64).val c, (Za .u64).val c1] b a (fun y v' => ∃ d e, y = Value.tuple #[(Za .u64).val d, (Za .u64).val e] ∧ (Za .u64).rel v' d z.1 ∧ (Za .u64).rel v' e z.2) :=
  mul64_w hv f g (Zyo hm)
theorem take_w {R : World} {o : Zd} (hv : VIn o R) {a off0 g C : Nat} {E : TypeId} {pre0 cs0 post0 : List Value} {u : (List Int)} (be : R.heap[a]? = some (.cells (pre0 ++ cs0 ++ post0).toArray E (0, 0))) (aG : off0 = pre0.length) (bf : o a = none) (au : g = u.length) (bg : g ≤ C ∧ C ≤ maxLen) (r : Rep.rels (Za .u64) o cs0 u) {c1 : List Value} {v : Nat} (D : Rep.rel ZC o c1 v) {c2 : List Value} {q : Int} (p2 : Rep.rel (Za .u64) o c2 q) {z : Bool × (List Int)} (H : Zng u v q = some z) : RetL Tryz.prog 197 #[.slice (some ⟨a, off0, none⟩) g C, ZC.val c1, (Za .u64).val c2] R o [a] (fun y v' w' => (∃ r0, y = Z5.val r0 ∧ Z5.rel v' r0 z.1) ∧ v' a = none ∧ ∃ cs, w'.heap[a]? = some (.cells (pre0 ++ cs ++ post0).toArray E (0, 0)) ∧ g = z.2.length ∧ Rep.rels (Za .u64) v' cs z.2) := by
  obtain ⟨q1, V, W, rfl⟩ := Z3 D; obtain ⟨rfl, r4⟩ := p2; refine Zgm (K := 79) (args := [.slice (some ⟨a, off0, none⟩) (g) C, .slice q1 V W, .int .u64 (q)]) hv be bf Tryz.func197 rfl rfl zl fun f S => ?_; unfold Zng at H; refine sr (mw S rfl fun f S => oe (Zh fun _ bh => ?_)); obtain ⟨J, bi, H⟩ := Zb H; obtain ⟨cz, av, H⟩ := Zb H; refine Zo (mv S rfl fun f S => ov S rfl (ZL S (Zz D) rfl rfl ZS) fun f S => ov S rfl (Zj S rfl rfl (Zja bi)) fun f S => ?_); obtain ⟨c25, aP⟩ : ∃ c : List Value, c = (List.replicate (J).toNat [.int .u64 ((0 : Int))]).flatten := ⟨_, rfl⟩; obtain ⟨aQ, w, bj, S⟩ := Zac ZJc S (l := J) (c := J) (Zea av).1 (Zea av).2.1 (Zea av).2.2.1 (Zea av).2.2.2 aP; have bk : Rep.rels (Za .u64) o c25 (List.replicate (J).toNat ((0 : Int))) := by rw [aP]; exact ZQb (show Rep.rel (Za .u64) _ [.int .u64 ((0 : Int))] _ from (Zq (by decide))) _
  refine Zna wn rfl zl (bj rfl rfl) S fun f S => mw S rfl fun f S => Zn (Zc (bh _ _ (sr (mw S rfl fun f S => oe (Zh fun _ bm => sr (mv S rfl fun f S => ov S rfl (ZL S (Zz D) rfl rfl ZS) fun f S => mv S rfl fun f S => oe ?_)))))); obtain ⟨bn, bo, bp⟩ := Zb H; refine ZP (fun f w => ∃ (L : (List Int)) (b : Int) (aH : Option Nat) (s : Nat) (G : Nat) (h : List Value) (X : Zd), (L, b) = bn ∧ Zd.le o X ∧ St 79 ⟨R, [a]⟩ o [(0, .slice (some ⟨a, off0, none⟩) (g) C), (1, .slice q1 V W), (7, .slice (mkA aH) (s) G), (8, .int .u64 (b))] [Loc.box a E (pre0 ++ cs0 ++ post0), Loc.own aH 211 1 (s) G h] X f w ∧ Rep.rels (Za .u64) X h L ∧ s = L.length ∧ inR .u64 b) (fun _ bq => ?_) ?_
  · have H := bo; refine wp_block ?_; obtain ⟨cA, br, bs⟩ := Zb H; have S := S.reorder (ℓ' := [Loc.box a E (pre0 ++ cs0 ++ post0), Loc.own (some aQ) 211 1 ((J).toNat) (J).toNat c25]) [1, 0] rfl (by decide); refine Zxa br (fun bt f w => ∃ (Y : (List Int)) (ag : Int) (m : Int) (aw : Option Nat) (M : Nat) (Z : Nat) (I : List Value) (ax : Zd), (Y, ag, m) = bt ∧ Zd.le o ax ∧ St 79 ⟨R, [a]⟩ o [(0, .slice (some ⟨a, off0, none⟩) (g) C), (1, .slice q1 V W), (2, .int .u64 (q)), (7, .slice (mkA aw) (M) Z), (8, .int .u64 (ag)), (20, .slice q1 V W), (21, .int .i64 ((((Zi 18446744073709551616 v)).length : Int))), (22, .int .i64 (m))] [Loc.box a E (pre0 ++ cs0 ++ post0), Loc.own aw 211 1 (M) Z I] ax f w ∧ Rep.rels (Za .u64) ax I Y ∧ M = Y.length ∧ inR .u64 ag ∧ inR .i64 m) ⟨_, _, _, some aQ, (J).toNat, (J).toNat, c25, _, rfl, (leR _), (S.fr' rfl), bk, (Zyb (x := (0 : Int))), (by decide), (by decide)⟩ ?_; rintro _ f w st ⟨Y, ag, m, aw, M, Z, I, ax, hq, ay, S, ah, ai, bu, cB⟩ H cC bv bw; subst hq; have r := ZX ay r; refine sr (ov S rfl (Zj S rfl rfl Zfa) fun f S => oe (Zh fun _ bx => ?_)); rcases Zx (decide (m < (((Zi 18446744073709551616 v)).length : Int))) with aj | aj
    · have H := Zw H aj; refine ZH S rfl aj (wp_skip (Zc (bx _ _ (Zh fun _ bz => wp_block (Zh fun _ bA => ?_))))); obtain ⟨aI, aJ, H⟩ := Zb H; refine Zo (mv S rfl fun f S => ?_); have D := Zp ay D; obtain ⟨_, aR, aS, cD, rfl, bB, bC⟩ := Zta D (Zm aJ).2.1; obtain ⟨rfl, bD⟩ := bC; refine ov S rfl (ZW S rfl rfl ZS (Zm aJ).1 (ltI (Zz D) (Zm aJ).2.2.1)) fun f S => ov S rfl (Z7 S rfl Zya (S.view bB)) fun f S => mw S rfl fun f S => mw S rfl fun f S => Zn (Zc (bA _ _ (Zh fun _ bE => ?_))); obtain ⟨aT, bF, H⟩ := Zb H; refine Zo (mv S rfl fun f S => mv S rfl fun f S => opc S rfl (Zk S [.int .u64 (aI), .int .u64 (q)] Zwj rfl rfl) (Znk S.vin (show Rep.rel (Za .u64) _ [.int .u64 (aI)] aI from (Zq bD)) (show Rep.rel (Za .u64) _ [.int .u64 (q)] q from (Zq r4)) bF) ?_); rintro _ aU f w aK ⟨cE, cF, rfl, bG, bH⟩ S; have r := ZX aK r; have ah := ZX aK ah; obtain ⟨rfl, cG⟩ := bG; obtain ⟨rfl, cH⟩ := bH; refine mv S rfl fun f S => ov S rfl (ZN S rfl rfl) fun f S => ov S rfl (ZN S rfl rfl) fun f S => mw S rfl fun f S => mw S rfl fun f S => Zn (Zc (bE _ _ (sr (mw S rfl fun f S => oe (Zh fun _ bI => ?_))))); obtain ⟨N, aV, H⟩ := Zb H; obtain ⟨cI, aa, H⟩ := Zb H; refine Zo (mv S rfl fun f S => mv S rfl fun f S => mv S rfl fun f S => mv S rfl fun f S => ov S rfl (Z4e S [.int .u64 (aT.2), .int .u64 (ag), .int .u64 ((0 : Int))] (ZLg Zph aV) rfl rfl) fun f S => mv S rfl fun f S => ov S rfl (ZN S rfl rfl) fun f S => ov S rfl (ZN S rfl rfl) fun f S => ?_)
      obtain ⟨aW, rfl⟩ := ZSb S (j := 1) rfl (Z1b ai (Zm aa).2.2.2); have aX := ZIa ah (Zm aa).2.1; obtain ⟨cJ, bJ⟩ : ∃ c, (List.take (Za .u64).n (List.drop ((m).toNat * (Za .u64).n) I)) = c := ⟨_, rfl⟩; rw [bJ] at aX; obtain ⟨rfl, cK⟩ := aX; refine ov S rfl (ZW S rfl rfl ZS (Zm aa).1 (ltI ai (Zm aa).2.2.1)) fun f S => ?_; obtain ⟨w, bK, S⟩ := ZRb S Zya (off := 0 + (m).toNat * 1) (z := .int .u64 (N.1)) (cs := [.int .u64 (N.1)]) (Zwb rfl) rfl (i := 1) rfl (ZUb S (j := 1) rfl (ltN ai (Zm aa).2.2.2)) (by first | rfl | simp [ZSa]); have bL : Rep.rels (Za .u64) aU (List.take (0 + (m).toNat * 1) I ++ [Value.int IntKind.u64 (N.1)] ++ List.drop (0 + (m).toNat * 1 + 1) I) (Y.set (m).toNat N.1) := ZIb ah (Zm aa).2.2.2 (show Rep.rel (Za .u64) aU [.int .u64 (N.1)] _ from (Zq (ZQh aV))) rfl rfl; have bM : M = (Y.set (m).toNat N.1).length := ZGb ai; refine Z1 wn rfl (bK rfl rfl) (mw S rfl fun f S => Zn ?_); have S := S.fr' (σ' := [(0, .slice (some ⟨a, off0, none⟩) (g) C), (1, .slice (some ⟨aR, aS, none⟩) V W), (2, .int .u64 (q)), (7, .slice (mkA (some aW)) (M) Z), (11, .int .u64 (aT.1)), (13, .int .u64 (N.2)), (20, .slice (some ⟨aR, aS, none⟩) V W), (21, .int .i64 ((((Zi 18446744073709551616 v)).length : Int))), (22, .int .i64 (m))]) rfl
      refine Zc (bI _ _ (Zo (mv S rfl fun f S => mv S rfl fun f S => ov S rfl (Zj S rfl rfl ZEb) fun f S => mw S rfl fun f S => Zn (Zua (Zc (bz _ _ ?_)))))); obtain ⟨cL, aY, H⟩ := Zb H; refine Zo (ov S rfl (Zj S rfl rfl (Zja aY)) fun f S => mv S rfl fun f S => Zn ?_); obtain rfl := Zg H; refine bv _ rfl _ _ ⟨_, _, _, some aW, M, Z, (List.take (0 + (m).toNat * 1) I ++ [Value.int IntKind.u64 (N.1)] ++ List.drop (0 + (m).toNat * 1 + 1) I), _, rfl, (leT ay aK), (S.fr' rfl), bL, bM, (Zva _ _), (Zha aY).2⟩
    have H := Zy H aj; refine ZG S rfl aj (wp_exit (ZU ?_)); obtain rfl := Zg H; have hq := bw _ rfl; subst hq; have H := bs; refine ZU (Zoa ?_); obtain rfl := Zg H; refine Zc (bq _ _ ⟨_, _, aw, M, Z, I, _, rfl, (leT (leR _) ay), (S.fr' rfl), ah, ai, bu⟩)
  rintro f w ⟨L, b, aH, s, G, h, X, hq, aZ, S, a0, az, bN⟩; subst hq; have H := bp; have r := ZX aZ r; refine Zc (bm _ _ (Zh fun _ bO => ?_)); obtain ⟨cM, ab, H⟩ := Zb H; refine Zo (mv S rfl fun f S => mv S rfl fun f S => ?_); have D := Zp aZ D; refine ov S rfl (ZL S (Zz D) rfl rfl ZS) fun f S => mv S rfl fun f S => ?_; obtain ⟨ac, rfl⟩ := ZSb S (j := 1) rfl (Z1b az (Zm ab).2.2.2); have a1 := ZIa a0 (Zm ab).2.1; obtain ⟨cN, bP⟩ : ∃ c, (List.take (Za .u64).n (List.drop (((((Zi 18446744073709551616 v)).length : Int)).toNat * (Za .u64).n) h)) = c := ⟨_, rfl⟩; rw [bP] at a1; obtain ⟨rfl, cO⟩ := a1; refine ov S rfl (ZW S rfl rfl ZS (Zm ab).1 (ltI az (Zm ab).2.2.1)) fun f S => ?_; obtain ⟨w, bQ, S⟩ := ZRb S Zya (off := 0 + ((((Zi 18446744073709551616 v)).length : Int)).toNat * 1) (z := .int .u64 (b)) (cs := [.int .u64 (b)]) (Zwb rfl) rfl (i := 1) rfl (ZUb S (j := 1) rfl (ltN az (Zm ab).2.2.2)) (by first | rfl | simp [ZSa]); have p : Rep.rels (Za .u64) X (List.take (0 + ((((Zi 18446744073709551616 v)).length : Int)).toNat * 1) h ++ [Value.int IntKind.u64 (b)] ++ List.drop (0 + ((((Zi 18446744073709551616 v)).length : Int)).toNat * 1 + 1) h) (L.set ((((Zi 18446744073709551616 v)).length : Int)).toNat b) := ZIb a0 (Zm ab).2.2.2 (show Rep.rel (Za .u64) X [.int .u64 (b)] _ from (Zq bN)) rfl rfl
  have aL : s = (L.set ((((Zi 18446744073709551616 v)).length : Int)).toNat b).length := ZGb az; refine Z1 wn rfl (bQ rfl rfl) (Zn (Zc (bO _ _ (Zh fun _ bR => Zh fun _ bS => ?_)))); obtain ⟨cP, bT, H⟩ := Zb H; obtain ⟨cQ, bU, H⟩ := Zb H; obtain ⟨bV, bW, H⟩ := Zb H; refine Zo (mv S rfl fun f S => ?_); have p0s120 := r; have h69s120 := p; have bX := S.vst.le; obtain ⟨cR, cS, a2, t, S, bY, bZ, b1, T⟩ := S.lendSeg (i := 0) (A := (Za .u64)) (l := u) (ℓ' := [Loc.own (some ac) 211 1 (s) G ((List.take (0 + ((((Zi 18446744073709551616 v)).length : Int)).toNat * 1) h ++ [Value.int IntKind.u64 (b)] ++ List.drop (0 + ((((Zi 18446744073709551616 v)).length : Int)).toNat * 1 + 1) h))]) rfl rfl aG r au bg; have p := ZX a2 p; refine opc S rfl (Zk S [.slice (some ⟨a, off0, none⟩) (g) C] ZEd rfl rfl) (ZKd S.vin (show Rep.rel (ZA (Za .u64)) _ [.slice (some ⟨a, off0, none⟩) (g) C] u from T) bT) ?_; rintro _ cT f w aA ⟨cU, rfl, P⟩ S; have p := ZX aA p; have t := aA _ _ t; obtain ⟨b2, b3, b4, rfl⟩ := Z3 P; refine mv S rfl fun f S => ?_; have T := Zp aA T; have h128s137 := T; have h69s137 := p; have h133s137 := P; have h124s137 := t; have b5 := S.vst.le; obtain ⟨cV, cW, aB, ak, S, b6, b7, b8, b9⟩ := S.lendSlice (i := 0) (A := (Za .u64)) (l := (L.set ((((Zi 18446744073709551616 v)).length : Int)).toNat b)) (ℓ' := []) rfl rfl rfl p aL
  have t := aB _ _ t; refine opc S rfl (Zk S [.slice (mkA (some ac)) (s) G] ZEd rfl rfl) (ZKd S.vin (show Rep.rel (ZA (Za .u64)) _ [.slice (mkA (some ac)) (s) G] ((L.set ((((Zi 18446744073709551616 v)).length : Int)).toNat b)) from b9) bU) ?_; rintro _ cX f w al ⟨cY, rfl, a3⟩ S; have t := al _ _ t; have ak := al _ _ ak; obtain ⟨ca, cb, cc, rfl⟩ := Z3 a3; have P := Zp (leT aB al) P; refine opc S rfl (Zk S [.slice b2 b3 b4, .slice ca cb cc] Ztk rfl rfl) (cmp_c S.vin P a3 bW) ?_; rintro _ cZ f w am ⟨c0, rfl, cd⟩ S; have t := am _ _ t; have ak := am _ _ ak; obtain ⟨rfl, c3⟩ := cd; refine ov S rfl (Zj S rfl rfl Zfa) fun f S => Zn ?_; obtain ⟨c4, an, S⟩ := S.takeBack (e := Loc.own (some ac) 211 1 (s) G ((List.take (0 + ((((Zi 18446744073709551616 v)).length : Int)).toNat * 1) h ++ [Value.int IntKind.u64 (b)] ++ List.drop (0 + ((((Zi 18446744073709551616 v)).length : Int)).toNat * 1 + 1) h))) (leT (leT aB al) am) rfl ak b6 b7 b5 b8; have T := Zp (leT (leT aB al) am) T; have T := Zp an h128s137; have p := ZX an h69s137; have P := Zp am P; have P := Zp an h133s137; have t := an _ _ h124s137; obtain ⟨a4, a5, S⟩ := S.takeBack (e := Loc.box a E (pre0 ++ cs0 ++ post0)) (leT (leT a2 aA) an) rfl t bY bZ bX b1; have r := ZX a5 p0s120
  have p := ZX a5 h69s120; refine Zc (bS _ _ ?_); rcases Zx (decide (bV < (0 : Int))) with ao | ao
  · have H := Zw H ao; refine ZH S rfl ao (sr (mw S rfl fun f S => oe (wp_ret (ZR ?_)))); obtain rfl := Zg H; refine Zxj S (ZJ rfl (ZF S rfl)) ⟨⟨[.bool (false)], rfl, ZBa⟩, (S.boxAt (j := 0) rfl).2, _, (S.boxAt (j := 0) rfl).1, au, r⟩
  have H := Zy H ao; refine ZG S rfl ao (wp_skip (Zc (bR _ _ (sr (mw S rfl fun f S => oe (Zh fun _ ce => sr (mv S rfl fun f S => ov S rfl (ZL S au rfl rfl ZS) fun f S => mv S rfl fun f S => oe ?_))))))); obtain ⟨cf, cg, ch⟩ := Zb H; refine ZP (fun f w => ∃ (aC : (List Int)) (aM : List Value) (aD : Zd), aC = cf ∧ Zd.le a4 aD ∧ St 79 ⟨R, [a]⟩ o [] [Loc.box a E (pre0 ++ aM ++ post0)] aD f w ∧ Rep.rels (Za .u64) aD aM aC ∧ g = aC.length) (fun _ ci => ?_) ?_
  · have H := cg; refine wp_block ?_; obtain ⟨c5, cj, ck⟩ := Zb H; refine Zxa cj (fun cl f w => ∃ (ad : (List Int)) (ap : Int) (d : Int) (B : List Value) (ae : Zd), (ad, ap, d) = cl ∧ Zd.le a4 ae ∧ St 79 ⟨R, [a]⟩ o [(0, .slice (some ⟨a, off0, none⟩) (g) C), (7, .slice (mkA (some ac)) (s) G), (14, .int .u64 (ap)), (58, .int .i64 ((u.length : Int))), (59, .int .i64 (d))] [Loc.box a E (pre0 ++ B ++ post0), Loc.own (some ac) 211 1 (s) G ((List.take (0 + ((((Zi 18446744073709551616 v)).length : Int)).toNat * 1) h ++ [Value.int IntKind.u64 (b)] ++ List.drop (0 + ((((Zi 18446744073709551616 v)).length : Int)).toNat * 1 + 1) h))] ae f w ∧ Rep.rels (Za .u64) ae B ad ∧ g = ad.length ∧ inR .u64 ap ∧ inR .i64 d) ⟨_, _, _, cs0, _, rfl, (leR _), (S.fr' rfl), r, au, (by decide), (by decide)⟩ ?_; rintro _ f w st ⟨ad, ap, d, B, ae, hq, aN, S, af, Q, c6, c7⟩ H c8 cm cn; subst hq; have p := ZX aN p; refine sr (ov S rfl (Zj S rfl rfl Zfa) fun f S => oe (Zh fun _ co => ?_)); rcases Zx (decide (d < (u.length : Int))) with aq | aq
    · have H := Zw H aq; refine ZH S rfl aq (wp_skip (Zc (co _ _ (Zh fun _ cp => wp_block (sr (mv S rfl fun f S => mw S rfl fun f S => oe ?_)))))); obtain ⟨a6, aE, H⟩ := Zb H; obtain ⟨a7, aF, H⟩ := Zb H; obtain ⟨U, aO, H⟩ := Zb H; obtain ⟨c9, ar, H⟩ := Zb H; refine Zaa (fl := #[true, true, true, true, true, true, true, true, true, true, true, false, true, true, true, true, false, false]) Z9 (by kernel_rfl) S ?_; intro ops O F w S; refine rfa O F 0 rfl rfl S (Zr S rfl) fun f S => rfa O F 1 rfl rfl S (Zr S rfl) fun f S => rfa O F 2 rfl rfl S (Zr S rfl) fun f S => rfa O F 3 rfl rfl S (Zr S rfl) fun f S => ?_; have a8 := ZIa af (Zm aE).2.1; obtain ⟨da, a9⟩ : ∃ c, (List.take (Za .u64).n (List.drop ((d).toNat * (Za .u64).n) B)) = c := ⟨_, rfl⟩; rw [a9] at a8; obtain ⟨rfl, cq⟩ := a8; refine rfa O F 4 rfl rfl S (ZW S rfl rfl ZS (Zm aE).1 (ltI Q (Zm aE).2.2.1)) fun f S => rfa O F 5 rfl rfl S (Z7 S rfl Zya (ZOg S (j := 0) rfl aG (ZZb af Q) a9 (ltN Q (Zm aE).2.2.2) 0 [.int .u64 (a6)] rfl zl)) fun f S => rfa O F 6 rfl rfl S (Zr S rfl) fun f S => rfa O F 7 rfl rfl S (Zr S rfl) fun f S => ?_; have ba := ZIa p (Zm aF).2.1; obtain ⟨db, bb⟩ : ∃ c, (List.take (Za .u64).n (List.drop ((d).toNat * (Za .u64).n) (List.take (0 + ((((Zi 18446744073709551616 v)).length : Int)).toNat * 1) h ++ [Value.int IntKind.u64 (b)] ++ List.drop (0 + ((((Zi 18446744073709551616 v)).length : Int)).toNat * 1 + 1) h))) = c := ⟨_, rfl⟩
      rw [bb] at ba; obtain ⟨rfl, cr⟩ := ba; refine rfa O F 8 rfl rfl S (ZW S rfl rfl ZS (Zm aF).1 (ltI aL (Zm aF).2.2.1)) fun f S => rfa O F 9 rfl rfl S (Z7 S rfl Zya (ZYc S (j := 1) rfl bb (ltN aL (Zm aF).2.2.2) 0 [.int .u64 (a7)] rfl zl)) fun f S => rfa O F 10 rfl rfl S (Zr S rfl) fun f S => go1 O F 11 (nva [5, 9, 10, 4, 8, 2, 3, 6, 7] [0, 1] O rfl rfl S (Z4e S [.int .u64 (a6), .int .u64 (a7), .int .u64 (ap)] (Zjl Zxl cq cr aO) rfl rfl) fun f S => ⟨(py S rfl rfl (Zr S rfl) (py S rfl rfl (Zr S rfl) Zl)), rfa O F 12 rfl rfl S (Zr S rfl) fun f S => rfa O F 13 rfl rfl S (ZN S rfl rfl) fun f S => rfa O F 14 rfl rfl S (ZN S rfl rfl) fun f S => ?_⟩); have bc := ZIa af (Zm ar).2.1; obtain ⟨dc, ct⟩ : ∃ c, (List.take (Za .u64).n (List.drop ((d).toNat * (Za .u64).n) B)) = c := ⟨_, rfl⟩; rw [ct] at bc; obtain ⟨rfl, dd⟩ := bc; refine rfa O F 15 rfl rfl S (ZW S rfl rfl ZS (Zm ar).1 (ltI Q (Zm ar).2.2.1)) fun f S => go1 O F 16 ?_; obtain ⟨w, cu, S⟩ := ZSp S (k := (d).toNat) Zya (z := .int .u64 (U.1)) (c := [.int .u64 (U.1)]) (Zwb rfl) rfl (i := 0) rfl aG (ZZb af Q) (ltN Q (Zm ar).2.2.2) rfl (by first | rfl | simp [ZSa]); have cv : Rep.rels (Za .u64) ae (List.take (0 + (d).toNat * 1) B ++ [Value.int IntKind.u64 (U.1)] ++ List.drop (0 + (d).toNat * 1 + 1) B) (ad.set (d).toNat U.1) := ZIb af (Zm ar).2.2.2 (show Rep.rel (Za .u64) ae [.int .u64 (U.1)] _ from (Zq (Z7l aO))) rfl rfl
      have cw : g = (ad.set (d).toNat U.1).length := ZGb Q; refine nxs [0, 1, 2, 3, 4, 5, 6, 7, 8, 9, 10, 11, 12, 13, 15] [14] O rfl rfl (cu rfl rfl) (⟨(py S rfl rfl (ZN S rfl rfl) Zl), go1 O F 17 (nva [0, 1, 2, 3, 4, 5, 6, 7, 8, 9, 10, 11, 12, 13, 14, 15, 16] [] O rfl rfl S (Zka S rfl) fun f S => ⟨Zl, ZZ O F (Zua (Zc (cp _ _ ?_)))⟩)⟩); obtain ⟨de, bd, H⟩ := Zb H; refine Zo (ov S rfl (Zj S rfl rfl (Zja bd)) fun f S => mv S rfl fun f S => Zn ?_); obtain rfl := Zg H; refine cm _ rfl _ _ ⟨_, _, _, (List.take (0 + (d).toNat * 1) B ++ [Value.int IntKind.u64 (U.1)] ++ List.drop (0 + (d).toNat * 1 + 1) B), _, rfl, aN, (S.fr' rfl), cv, cw, (Zwm aO), (Zha bd).2⟩
    have H := Zy H aq; refine ZG S rfl aq (wp_exit (ZU ?_)); obtain rfl := Zg H; have hq := cn _ rfl; subst hq; have H := ck; refine ZU (Zoa ?_); obtain rfl := Zg H; have S := S.reorder (ℓ' := [Loc.box a E (pre0 ++ B ++ post0)]) [0] rfl (by decide); refine Zc (ci _ _ ⟨_, B, _, rfl, (leT (leR _) aN), (S.fr' rfl), af, Q⟩)
  rintro f w ⟨aC, aM, aD, hq, df, S, cx, cy⟩; subst hq; have H := ch; refine Zc (ce _ _ (sr (mw S rfl fun f S => oe (wp_ret ?_)))); obtain rfl := Zg H; refine Zxj S (ZJ rfl (ZF S rfl)) ⟨⟨[.bool (true)], rfl, ZBa⟩, (S.boxAt (j := 0) rfl).2, _, (S.boxAt (j := 0) rfl).1, cy, cx⟩
theorem take_c {d : World} {a : Zd} (hv : VIn a d) {b off0 c e : Nat} {f : TypeId} {pre0 cs0 post0 : List Value} {u : (List Int)} (k : d.heap[b]? = some (.cells (pre0 ++ cs0 ++ post0).toArray f (0, 0))) (l : off0 = pre0.length) (m : a b = none) (n : c = u.length) (o : c ≤ e ∧ e ≤ maxLen) (g : Rep.rels (Za .u64) a cs0 u) {c1 : List Value} {v : Nat} (p : Rep.rel ZC a c1 v) {h : List Value} {q : Int} (i : Rep.rel (Za .u64) a h q) {z : Bool × (List Int)} (hm : ZVf u v q = some z) :
    RetL Tryz.prog 197 #[Value.slice (some ⟨b, off0, none⟩) c e, ZC.val c1, (Za .u64).val h] d a [b] (fun y v' w' => (∃ j, y = Z5.val j ∧ Z5.rel v' j z.1) ∧ v' b = none ∧ ∃ cs, w'.heap[b]? = some (.cells (pre0 ++ cs ++ post0).toArray f (0, 0)) ∧ c = z.2.length ∧ Rep.rels (Za .u64) v' cs z.2) :=
  take_w hv k l m n o g p i (Ziq (Zkk g) i.2 hm)
theorem digit_w {x : World} {m : Zd} (hv : VIn m x) {a off0 e h : Nat} {A : TypeId} {pre0 cs0 post0 : List Value} {u : (List Int)} (a0 : x.heap[a]? = some (.cells (pre0 ++ cs0 ++ post0).toArray A (0, 0))) (G : off0 = pre0.length) (a1 : m a = none) (k : e = u.length) (a2 : e ≤ h ∧ h ≤ maxLen) (d : Rep.rels (Za .u64) m cs0 u) {c1 : List Value} {v : Nat} (g : Rep.rel ZC m c1 v) {z : Int × (List Int)} (H : ZUg u v = some z) : RetL Tryz.prog 178 #[.slice (some ⟨a, off0, none⟩) e h, ZC.val c1] x m [a] (fun y v' w' => (∃ r0, y = (Za .u64).val r0 ∧ (Za .u64).rel v' r0 z.1) ∧ v' a = none ∧ ∃ cs, w'.heap[a]? = some (.cells (pre0 ++ cs ++ post0).toArray A (0, 0)) ∧ e = z.2.length ∧ Rep.rels (Za .u64) v' cs z.2) := by
  obtain ⟨q1, o, p, rfl⟩ := Z3 g; refine Zgm (K := 90) (args := [.slice (some ⟨a, off0, none⟩) (e) h, .slice q1 o p]) hv a0 a1 Tryz.func178 rfl rfl zl fun f S => ?_; unfold ZUg at H; refine sr (mw S rfl fun f S => oe (sr (mv S rfl fun f S => ov S rfl (ZL S (Zz g) rfl rfl ZS) fun f S => mw S rfl fun f S => oe (sr (mw S rfl fun f S => oe (Zh fun _ a3 => Zh fun _ a4 => ?_)))))); obtain ⟨aE, V, H⟩ := Zb H; obtain ⟨cf, a5, H⟩ := Zb H; obtain ⟨a6, aj, H⟩ := Zb H; refine Zaa (fl := #[true, true, true, true, true, true, true, true, true, true]) Z9 (by kernel_rfl) S ?_; intro ops O F w S; refine rfa O F 0 rfl rfl S (Zr S rfl) fun f S => rfa O F 1 rfl rfl S (Zr S rfl) fun f S => ?_; have aF := ZIa d (Zm V).2.1; obtain ⟨cg, aG⟩ : ∃ c, (List.take (Za .u64).n (List.drop (((((Zi 18446744073709551616 v)).length : Int)).toNat * (Za .u64).n) cs0)) = c := ⟨_, rfl⟩; rw [aG] at aF; obtain ⟨rfl, ch⟩ := aF; refine rfa O F 2 rfl rfl S (ZW S rfl rfl ZS (Zm V).1 (ltI k (Zm V).2.2.1)) fun f S => rfa O F 3 rfl rfl S (Z7 S rfl Zya (ZOg S (j := 0) rfl G (ZZb d k) aG (ltN k (Zm V).2.2.2) 0 [.int .u64 (aE)] rfl zl)) fun f S => rfa O F 4 rfl rfl S (Zr S rfl) fun f S => rfa O F 5 rfl rfl S (Zr S rfl) fun f S => rfa O F 6 rfl rfl S (Zj S rfl rfl (ZHa a5)) fun f S => ?_; obtain ⟨_, r, s, ci, rfl, a7, a8⟩ := Zta g (Zm aj).2.1
  obtain ⟨rfl, cj⟩ := a8; refine rfa O F 7 rfl rfl S (ZW S rfl rfl ZS (Zm aj).1 (ltI (Zz g) (Zm aj).2.2.1)) fun f S => rfa O F 8 rfl rfl S (Z7 S rfl Zya (S.view a7)) fun f S => rfa O F 9 rfl rfl S (Zj S rfl rfl Zfa) fun f S => ZZ O F (Zc (a4 _ _ ?_)); obtain ⟨a9, ba, bb⟩ := Zb H; refine ZP (fun f w => ∃ (W : Int) (I : Zd), W = a9 ∧ Zd.le m I ∧ St 90 ⟨x, [a]⟩ m [(0, .slice (some ⟨a, off0, none⟩) (e) h), (1, .slice (some ⟨r, s, none⟩) o p), (6, .int .u64 (W))] [Loc.box a A (pre0 ++ cs0 ++ post0)] I f w ∧ inR .u64 W) (fun _ aH => ?_) ?_
  · have H := ba; rcases Zx (decide (aE < a6)) with J | J
    · have H := Zw H J; refine ZH S rfl J (sr (mw S rfl fun f S => oe (Zh fun _ bc => ?_))); obtain ⟨X, Y, H⟩ := Zb H; obtain ⟨bd, be, H⟩ := Zb H; obtain ⟨Z, aa, H⟩ := Zb H; obtain ⟨ck, bf, H⟩ := Zb H; obtain ⟨ak, al, H⟩ := Zb H; obtain ⟨aI, bg, H⟩ := Zb H; refine Zaa (fl := #[true, true, true, true, true, true, true, true, true, true, true, true, true, true, false, true, true, true, false, false]) Z9 (by kernel_rfl) S ?_; intro ops O F w S; refine rfa O F 0 rfl rfl S (Zr S rfl) fun f S => rfa O F 1 rfl rfl S (Zr S rfl) fun f S => ?_; have aJ := ZIa d (Zm Y).2.1; obtain ⟨cl, aK⟩ : ∃ c, (List.take (Za .u64).n (List.drop (((((Zi 18446744073709551616 v)).length : Int)).toNat * (Za .u64).n) cs0)) = c := ⟨_, rfl⟩; rw [aK] at aJ; obtain ⟨rfl, bh⟩ := aJ; refine rfa O F 2 rfl rfl S (ZW S rfl rfl ZS (Zm Y).1 (ltI k (Zm Y).2.2.1)) fun f S => rfa O F 3 rfl rfl S (Z7 S rfl Zya (ZOg S (j := 0) rfl G (ZZb d k) aK (ltN k (Zm Y).2.2.2) 0 [.int .u64 (X)] rfl zl)) fun f S => rfa O F 4 rfl rfl S (Zr S rfl) fun f S => rfa O F 5 rfl rfl S (Zr S rfl) fun f S => rfa O F 6 rfl rfl S (Zj S rfl rfl (ZHa be)) fun f S => ?_; have aL := ZIa d (Zm aa).2.1; obtain ⟨cm, aM⟩ : ∃ c, (List.take (Za .u64).n (List.drop ((bd).toNat * (Za .u64).n) cs0)) = c := ⟨_, rfl⟩
      rw [aM] at aL; obtain ⟨rfl, bi⟩ := aL; refine rfa O F 7 rfl rfl S (ZW S rfl rfl ZS (Zm aa).1 (ltI k (Zm aa).2.2.1)) fun f S => rfa O F 8 rfl rfl S (Z7 S rfl Zya (ZOg S (j := 0) rfl G (ZZb d k) aM (ltN k (Zm aa).2.2.2) 0 [.int .u64 (Z)] rfl zl)) fun f S => rfa O F 9 rfl rfl S (Zr S rfl) fun f S => rfa O F 10 rfl rfl S (Zr S rfl) fun f S => rfa O F 11 rfl rfl S (Zj S rfl rfl (ZHa bf)) fun f S => ?_; obtain ⟨cn, am, bj⟩ := Zkd g (Zm al).2.1; obtain ⟨rfl, bk⟩ := bj; refine rfa O F 12 rfl rfl S (ZW S rfl rfl ZS (Zm al).1 (ltI (Zz g) (Zm al).2.2.1)) fun f S => rfa O F 13 rfl rfl S (Z7 S rfl Zya (S.view am)) fun f S => go1 O F 14 (nxc [3, 8, 13, 2, 7, 12, 0, 1, 4, 6, 9, 11, 5, 10] [] O rfl S rfl (Zk S [.int .u64 (X), .int .u64 (Z), .int .u64 (ak)] Z4k rfl rfl) (ZJl S.vin (show Rep.rel (Za .u64) _ [.int .u64 (X)] X from (Zq bh)) (show Rep.rel (Za .u64) _ [.int .u64 (Z)] Z from (Zq bi)) (show Rep.rel (Za .u64) _ [.int .u64 (ak)] ak from (Zq bk)) bg) ?_); rintro _ aN f w ab ⟨co, cp, rfl, bm, bn⟩ S; have d := ZX ab d; have am := Atm ab am; obtain ⟨rfl, bo⟩ := bm; obtain ⟨rfl, bp⟩ := bn; refine ⟨Zl, rfa O F 15 rfl rfl S (Zr S rfl) fun f S => rfa O F 16 rfl rfl S (ZN S rfl rfl) fun f S => rfa O F 17 rfl rfl S (ZN S rfl rfl) fun f S => go1 O F 18 (nva [0, 1, 2, 3, 4, 5, 6, 7, 8, 9, 10, 11, 12, 13, 14, 15, 16] [17] O rfl rfl S (Zka S rfl) fun f S => ⟨(py S rfl rfl (ZN S rfl rfl) Zl), go1 O F 19 (nva [0, 1, 2, 3, 4, 5, 6, 7, 8, 9, 10, 11, 12, 13, 14, 15, 16, 17, 18] [] O rfl rfl S (Zka S rfl) fun f S => ⟨Zl, ZZ O F ?_⟩)⟩)⟩
      have S := S.fr' (σ' := [(0, .slice (some ⟨a, off0, none⟩) (e) h), (1, .slice (some ⟨r, s, none⟩) o p), (5, .int .i64 ((((Zi 18446744073709551616 v)).length : Int))), (6, .int .u64 (aI.1)), (7, .int .u64 (aI.2))]) rfl; refine Zc (bc _ _ ?_); obtain ⟨bq, br, bs⟩ := Zb H; refine ZP (fun f w => ∃ (ac : Int) (an : Zd), ac = bq ∧ Zd.le aN an ∧ St 90 ⟨x, [a]⟩ m [(0, .slice (some ⟨a, off0, none⟩) (e) h), (1, .slice (some ⟨r, s, none⟩) o p), (6, .int .u64 (ac))] [Loc.box a A (pre0 ++ cs0 ++ post0)] an f w ∧ inR .u64 ac) (fun _ aO => ?_) ?_
      · have H := br; refine wp_block ?_; obtain ⟨cq, bt, aP⟩ := Zb H; refine Zxa bt (fun bu f w => ∃ (q : Int) (l : Int) (ao : Zd), (q, l) = bu ∧ Zd.le aN ao ∧ St 90 ⟨x, [a]⟩ m [(0, .slice (some ⟨a, off0, none⟩) (e) h), (1, .slice (some ⟨r, s, none⟩) o p), (5, .int .i64 ((((Zi 18446744073709551616 v)).length : Int))), (6, .int .u64 (q)), (7, .int .u64 (l))] [Loc.box a A (pre0 ++ cs0 ++ post0)] ao f w ∧ inR .u64 q ∧ inR .u64 l) ⟨_, _, _, rfl, (leR _), (S.fr' rfl), bo, bp⟩ ?_; rintro _ f w st ⟨q, l, ao, hq, L, S, aQ, cr⟩ H ct bv aR; subst hq; have d := ZX L d; refine wp_block (Zh fun _ bw => ?_); obtain ⟨cu, bx, H⟩ := Zb H; obtain ⟨ap, aq, H⟩ := Zb H; obtain ⟨B, bz, H⟩ := Zb H; refine Zo (mv S rfl fun f S => mv S rfl fun f S => mv S rfl fun f S => ov S rfl (Zj S rfl rfl (ZHa bx)) fun f S => ?_); have g := Zp (leT ab L) g; obtain ⟨cv, ar, bA⟩ := Zkd g (Zm aq).2.1; obtain ⟨rfl, bB⟩ := bA; refine ov S rfl (ZW S rfl rfl ZS (Zm aq).1 (ltI (Zz g) (Zm aq).2.2.1)) fun f S => ov S rfl (Z7 S rfl Zya (S.view ar)) fun f S => opc S rfl (Zk S [.int .u64 (q), .int .u64 (ap)] Zwj rfl rfl) (Znk S.vin (show Rep.rel (Za .u64) _ [.int .u64 (q)] q from (Zq aQ)) (show Rep.rel (Za .u64) _ [.int .u64 (ap)] ap from (Zq bB)) bz) ?_
        rintro _ bC f w D ⟨cw, cx, rfl, bD, bE⟩ S; have d := ZX D d; have ar := Atm D ar; obtain ⟨rfl, cy⟩ := bD; obtain ⟨rfl, cz⟩ := bE; refine mv S rfl fun f S => ov S rfl (ZN S rfl rfl) fun f S => ov S rfl (ZN S rfl rfl) fun f S => mw S rfl fun f S => mw S rfl fun f S => Zn (Zc (bw _ _ (Zh fun _ bF => Zh fun _ bG => ?_))); obtain ⟨bH, bI, bJ⟩ := Zb H; refine ZP (fun f w => ∃ (ad : Bool) (au : Zd), ad = bH ∧ Zd.le bC au ∧ St 90 ⟨x, [a]⟩ m [(0, .slice (some ⟨a, off0, none⟩) (e) h), (1, .slice (some ⟨r, s, none⟩) o p), (5, .int .i64 ((((Zi 18446744073709551616 v)).length : Int))), (6, .int .u64 (q)), (7, .int .u64 (l)), (67, .bool (ad))] [Loc.box a A (pre0 ++ cs0 ++ post0)] au f w) (fun _ av => ?_) ?_
        · have H := bI; rcases Zx (decide (B.1 < l)) with E | E
          · have H := Zw H E; refine Zo (mv S rfl fun f S => mv S rfl fun f S => ov S rfl (Zj S rfl rfl Zfa) fun f S => ?_); have S := S.bool (t := 53) rfl E; refine mv S rfl fun f S => opn S rfl rfl rfl rfl fun f S => opn S rfl rfl rfl rfl fun f S => opn S rfl rfl rfl rfl fun f S => opn S rfl rfl rfl rfl fun f S => Zsc S (Zwc S rfl rfl rfl zl) rfl zl fun f S => Zsc S (Zwc S rfl rfl rfl zl) rfl zl fun f S => Zsc S (Zwc S rfl rfl rfl zl) rfl zl fun f S => Zsc S (Zwc S rfl rfl rfl zl) rfl zl fun f S => Zsc S (Zwc S rfl rfl rfl zl) rfl zl fun f S => Zsc S (Zwc S rfl rfl rfl zl) rfl zl fun f S => Zsc S (Zwc S rfl rfl rfl zl) rfl zl fun f S => opn S rfl rfl rfl rfl fun f S => ov S rfl (ZD S (b := true) rfl rfl) fun f S => ?_; refine Zn ?_; have S := S.fr' (σ' := [(0, .slice (some ⟨a, off0, none⟩) (e) h), (1, .slice (some ⟨r, s, none⟩) o p), (5, .int .i64 ((((Zi 18446744073709551616 v)).length : Int))), (6, .int .u64 (q)), (7, .int .u64 (l)), (55, undef), (56, undef), (57, undef), (58, undef), (59, undef), (60, undef), (61, undef), (62, undef), (63, undef), (64, undef), (65, undef), (66, undef), (67, .bool (true))]) rfl; obtain rfl := Zg H; refine Zc (av _ _ ⟨_, _, rfl, (leR _), (S.fr' rfl)⟩)
          have H := Zy H E; rcases Zx (B.1 == l) with M | M
          · have H := Zw H M; obtain ⟨aw, bK, H⟩ := Zb H; obtain ⟨N, ae, H⟩ := Zb H; refine Zo (mv S rfl fun f S => mv S rfl fun f S => ov S rfl (Zj S rfl rfl Zfa) fun f S => ?_); have S := S.bool (t := 53) rfl E; refine mv S rfl fun f S => opy S rfl rfl rfl rfl (Zr S rfl) fun f S => opy S rfl rfl rfl rfl (Zr S rfl) fun f S => opy S rfl rfl rfl rfl (Zj S rfl rfl Z4) fun f S => ?_; have S := S.bool (t := 57) rfl M; refine opy S rfl rfl rfl rfl (Zr S rfl) fun f S => opy S rfl rfl rfl rfl (Zr S rfl) fun f S => opy S rfl rfl rfl rfl (Zr S rfl) fun f S => opy S rfl rfl rfl rfl (Zr S rfl) fun f S => opy S rfl rfl rfl rfl (Zj S rfl rfl (ZHa bK)) fun f S => ?_; have aS := ZIa d (Zm ae).2.1; obtain ⟨cA, aT⟩ : ∃ c, (List.take (Za .u64).n (List.drop ((aw).toNat * (Za .u64).n) cs0)) = c := ⟨_, rfl⟩; rw [aT] at aS; obtain ⟨rfl, cB⟩ := aS; refine opy S rfl rfl rfl rfl (ZW S rfl rfl ZS (Zm ae).1 (ltI k (Zm ae).2.2.1)) fun f S => opy S rfl rfl rfl rfl (Z7 S rfl Zya (ZOg S (j := 0) rfl G (ZZb d k) aT (ltN k (Zm ae).2.2.2) 0 [.int .u64 (N)] rfl zl)) fun f S => opy S rfl rfl rfl rfl (Zj S rfl rfl Z6c) fun f S => opy S rfl rfl rfl rfl (ZD S (b := true) rfl rfl) fun f S => ov S rfl (ZD S (b := false) rfl rfl) fun f S => Zn ?_; have S := S.fr' (σ' := [(0, .slice (some ⟨a, off0, none⟩) (e) h), (1, .slice (some ⟨r, s, none⟩) o p), (5, .int .i64 ((((Zi 18446744073709551616 v)).length : Int))), (6, .int .u64 (q)), (7, .int .u64 (l)), (55, .int .u64 (B.1)), (56, .int .u64 (l)), (57, .bool (true)), (58, .bool (true)), (59, .int .u64 (B.2)), (60, .slice (some ⟨a, off0, none⟩) (e) h), (61, .int .i64 ((((Zi 18446744073709551616 v)).length : Int))), (62, .int .i64 (aw)), (63, .pointer (some ⟨a, off0 + (aw).toNat * 1, none⟩)), (64, .int .u64 (N)), (65, .bool (decide (B.2 ≤ N))), (66, .bool (decide (B.2 ≤ N))), (67, .bool (decide (B.2 ≤ N)))]) rfl
            obtain rfl := Zg H; refine Zc (av _ _ ⟨_, _, rfl, (leR _), (S.fr' rfl)⟩)
          have H := Zy H M; refine Zo (mv S rfl fun f S => mv S rfl fun f S => ov S rfl (Zj S rfl rfl Zfa) fun f S => ?_); have S := S.bool (t := 53) rfl E; refine mv S rfl fun f S => opy S rfl rfl rfl rfl (Zr S rfl) fun f S => opy S rfl rfl rfl rfl (Zr S rfl) fun f S => opy S rfl rfl rfl rfl (Zj S rfl rfl Z4) fun f S => ?_; have S := S.bool (t := 57) rfl M; refine opy S rfl rfl rfl rfl (Zr S rfl) fun f S => opn S rfl rfl rfl rfl fun f S => opn S rfl rfl rfl rfl fun f S => opn S rfl rfl rfl rfl fun f S => opn S rfl rfl rfl rfl fun f S => opn S rfl rfl rfl rfl fun f S => opn S rfl rfl rfl rfl fun f S => opn S rfl rfl rfl rfl fun f S => opy S rfl rfl rfl rfl (ZD S (b := false) rfl rfl) fun f S => ov S rfl (ZD S (b := false) rfl rfl) fun f S => Zn ?_; have S := S.fr' (σ' := [(0, .slice (some ⟨a, off0, none⟩) (e) h), (1, .slice (some ⟨r, s, none⟩) o p), (5, .int .i64 ((((Zi 18446744073709551616 v)).length : Int))), (6, .int .u64 (q)), (7, .int .u64 (l)), (55, .int .u64 (B.1)), (56, .int .u64 (l)), (57, .bool (false)), (58, .bool (false)), (59, undef), (60, undef), (61, undef), (62, undef), (63, undef), (64, undef), (65, undef), (66, .bool (false)), (67, .bool (false))]) rfl; obtain rfl := Zg H; refine Zc (av _ _ ⟨_, _, rfl, (leR _), (S.fr' rfl)⟩)
        rintro f w ⟨ad, au, hq, P, S⟩; subst hq; have H := bJ; have d := ZX P d; refine Zc (bG _ _ ?_); rcases Zx (ad) with Q | Q
        · have H := Zw H Q; refine ZH S rfl Q (wp_exit (ZU (ZWh rfl ?_))); obtain rfl := Zg H; have hq := aR _ rfl; subst hq; have H := aP; refine ZU (Zoa ?_); obtain rfl := Zg H; refine Zc (aO _ _ ⟨_, _, rfl, (leT (leT (leT (leR _) L) D) P), (S.fr' rfl), aQ⟩)
        have H := Zy H Q; refine ZG S rfl Q (wp_skip (Zc (bF _ _ (sr (mv S rfl fun f S => ov S rfl (Zj S rfl rfl ZRd) fun f S => mw S rfl fun f S => oe (sr (mw S rfl fun f S => oe (Zh fun _ bL => ?_)))))))); obtain ⟨cC, bM, H⟩ := Zb H; obtain ⟨bN, ax, H⟩ := Zb H; obtain ⟨bO, aU, H⟩ := Zb H; refine Zo (mv S rfl fun f S => mv S rfl fun f S => mv S rfl fun f S => ov S rfl (Zj S rfl rfl (ZHa bM)) fun f S => ?_); have g := Zp (leT D P) g; obtain ⟨cD, bP, bQ⟩ := Zkd g (Zm ax).2.1; obtain ⟨rfl, cE⟩ := bQ; refine ov S rfl (ZW S rfl rfl ZS (Zm ax).1 (ltI (Zz g) (Zm ax).2.2.1)) fun f S => ov S rfl (Z7 S rfl Zya (S.view bP)) fun f S => ov S rfl (Z4e S [.int .u64 (l), .int .u64 (bN), .int .u64 ((0 : Int))] (ZLg Zph aU) rfl rfl) fun f S => mv S rfl fun f S => ov S rfl (ZN S rfl rfl) fun f S => ov S rfl (ZN S rfl rfl) fun f S => mw S rfl fun f S => mw S rfl fun f S => Zn (Zc (bL _ _ (sr (mv S rfl fun f S => ov S rfl (Zj S rfl rfl ZCa) fun f S => oe ?_)))); rcases Zx (decide ((0 : Int) < bO.2)) with R | R
        · have H := Zw H R; refine ZH S rfl R (wp_exit (ZWh rfl ?_)); obtain rfl := Zg H; have hq := aR _ rfl; subst hq; have H := aP; refine ZU (Zoa ?_); obtain rfl := Zg H; refine Zc (aO _ _ ⟨_, _, rfl, (leT (leT (leT (leR _) L) D) P), (S.fr' rfl), (Zva _ _)⟩)
        have H := Zy H R; refine ZG S rfl R (wp_skip (Zua ?_)); obtain rfl := Zg H; refine bv _ rfl _ _ ⟨_, _, _, rfl, (leT (leT L D) P), (S.fr' rfl), (Zva _ _), (ZQh aU)⟩
      rintro f w ⟨ac, an, hq, aV, S, bR⟩; subst hq; have H := bs; have d := ZX aV d; obtain rfl := Zg H; refine Zc (aH _ _ ⟨_, _, rfl, (leT (leT (leR _) ab) aV), (S.fr' rfl), bR⟩)
    have H := Zy H J; refine ZG S rfl J (wp_skip ?_); obtain rfl := Zg H; refine Zc (aH _ _ ⟨_, _, rfl, (leR _), (S.fr' rfl), (by decide)⟩)
  rintro f w ⟨W, I, hq, aW, S, bS⟩; subst hq; have H := bb; have d := ZX aW d; refine Zc (a3 _ _ (Zh fun _ bT => ?_)); obtain ⟨bU, bV, bW⟩ := Zb H; refine ZP (fun f w => ∃ (af : (List Int)) (T : Int) (ay : List Value) (ag : Zd), (af, T) = bU ∧ Zd.le I ag ∧ St 90 ⟨x, [a]⟩ m [(6, .int .u64 (T))] [Loc.box a A (pre0 ++ ay ++ post0)] ag f w ∧ Rep.rels (Za .u64) ag ay af ∧ e = af.length ∧ inR .u64 T) (fun _ bX => ?_) ?_
  · have H := bV; refine wp_block ?_; obtain ⟨cF, bY, bZ⟩ := Zb H; refine Zxa bY (fun b1 f w => ∃ (ah : (List Int)) (C : Int) (az : List Value) (ai : Zd), (ah, C) = b1 ∧ Zd.le I ai ∧ St 90 ⟨x, [a]⟩ m [(0, .slice (some ⟨a, off0, none⟩) (e) h), (1, .slice (some ⟨r, s, none⟩) o p), (6, .int .u64 (C))] [Loc.box a A (pre0 ++ az ++ post0)] ai f w ∧ Rep.rels (Za .u64) ai az ah ∧ e = ah.length ∧ inR .u64 C) ⟨_, _, cs0, _, rfl, (leR _), (S.fr' rfl), d, k, bS⟩ ?_; rintro _ f w st ⟨ah, C, az, ai, hq, aA, S, aB, b2, aX⟩ H cG b3 b4; subst hq; refine Zh fun _ b5 => Zh fun _ b6 => ?_; obtain ⟨b7, b8, H⟩ := Zb H; refine Zo (mv S rfl fun f S => mv S rfl fun f S => mv S rfl fun f S => ?_); have g := Zp (leT aW aA) g; refine Zil S wn rfl zl (Zk S [.slice (some ⟨a, off0, none⟩) (e) h, .slice (some ⟨r, s, none⟩) o p, .int .u64 (C)] k_en197 rfl rfl) (i := 0) rfl rfl (take_c S.vin (S.boxAt (j := 0) rfl).1 G (S.boxAt (j := 0) rfl).2 b2 a2 aB g (show Rep.rel (Za .u64) _ [.int .u64 (C)] C from (Zq aX)) b8) ?_; rintro _ cH f w aC ⟨⟨cI, rfl, b9⟩, ca, aD, cb, aY, aZ⟩ hSf; have aB := ZX aC aB; have S := hSf (Loc.box a A (pre0 ++ aD ++ post0)) rfl cb ca; obtain rfl := b9; refine ov S rfl (Zfc S rfl) fun f S => Zn (Zc (b6 _ _ ?_)); rcases Zx (!(b7.1)) with U | U
    · have H := Zw H U; refine ZH S rfl U (wp_skip (Zc (b5 _ _ (wp_block (Zo (mv S rfl fun f S => ov S rfl (Zj S rfl rfl ZRd) fun f S => mw S rfl fun f S => Zn (Zua ?_))))))); obtain rfl := Zg H; refine b3 _ rfl _ _ ⟨_, _, aD, _, rfl, (leT aA aC), (S.fr' rfl), aZ, aY, (Zva _ _)⟩
    have H := Zy H U; refine ZG S rfl U (wp_exit (ZU ?_)); obtain rfl := Zg H; have hq := b4 _ rfl; subst hq; have H := bZ; refine ZU (Zoa ?_); obtain rfl := Zg H; refine Zc (bX _ _ ⟨_, _, aD, _, rfl, (leT (leT (leR _) aA) aC), (S.fr' rfl), aZ, aY, aX⟩)
  rintro f w ⟨af, T, ay, ag, hq, cJ, S, cc, cd, ce⟩; subst hq; have H := bW; refine Zc (bT _ _ (sr (mv S rfl fun f S => mw S rfl fun f S => oe (wp_ret ?_)))); obtain rfl := Zg H; refine Zxj S (ZJ rfl (ZF S rfl)) ⟨⟨[.int .u64 (T)], rfl, (Zq ce)⟩, (S.boxAt (j := 0) rfl).2, _, (S.boxAt (j := 0) rfl).1, cd, cc⟩
theorem digit_c {d : World} {b : Zd} (hv : VIn b d) {a off0 c e : Nat} {f : TypeId} {pre0 cs0 post0 : List Value} {u : (List Int)} (i : d.heap[a]? = some (.cells (pre0 ++ cs0 ++ post0).toArray f (0, 0))) (j : off0 = pre0.length) (k : b a = none) (l : c = u.length) (m : c ≤ e ∧ e ≤ maxLen) (g : Rep.rels (Za .u64) b cs0 u) {c1 : List Value} {v : Nat} (n : Rep.rel ZC b c1 v) {z : Int × (List Int)} (hm : Z6f u v = some z) :
    RetL Tryz.prog 178 #[Value.slice (some ⟨a, off0, none⟩) c e, ZC.val c1] d b [a] (fun y v' w' => (∃ h, y = (Za .u64).val h ∧ (Za .u64).rel v' h z.1) ∧ v' a = none ∧ ∃ cs, w'.heap[a]? = some (.cells (pre0 ++ cs ++ post0).toArray f (0, 0)) ∧ c = z.2.length ∧ Rep.rels (Za .u64) v' cs z.2) :=
  digit_w hv i j k l m g n (Zoq (Zkk g) hm)
theorem left_w {I : World} {o : Zd} (hv : VIn o I) {c0 : List Value} {a : Nat} (g : Rep.rel ZC o c0 a) {c1 : List Value} {n : Int} (p1 : Rep.rel (Za .i64) o c1 n) {z : Nat} (H : Zjg a n = some z) : Ret Tryz.prog 177 #[ZC.val c0, (Za .i64).val c1] I o (fun y v' => ∃ r0, y = ZC.val r0 ∧ ZC.rel v' r0 z) := by
  obtain ⟨W, J, L, rfl⟩ := Z3 g; obtain ⟨rfl, r4⟩ := p1; refine ZQ (K := 58) (args := [.slice W J L, .int .i64 (n)]) hv Tryz.func177 rfl rfl zl fun f S => ?_; unfold Zjg at H; refine sr (mw S rfl fun f S => oe (Zh fun _ av => Zh fun _ aw => ?_)); obtain ⟨ax, ay, az⟩ := Zb H; refine ZP (fun f w => ∃ (X : Bool) (v : Zd), X = ax ∧ Zd.le o v ∧ St 58 I o [(0, .slice W J L), (1, .int .i64 (n)), (14, .bool (X))] [] v f w) (fun _ ag => ?_) ?_
  · have H := ay; rcases Zx (((((Zi 18446744073709551616 a)).length : Int)) == ((0 : Int))) with M | M
    · have H := Zw H M; refine Zo (mv S rfl fun f S => ov S rfl (ZL S (Zz g) rfl rfl ZS) fun f S => ov S rfl (Zj S rfl rfl Z4) fun f S => ?_); have S := S.bool (t := 10) rfl M; refine mv S rfl fun f S => opn S rfl rfl rfl rfl fun f S => opn S rfl rfl rfl rfl fun f S => ov S rfl (ZD S (b := true) rfl rfl) fun f S => Zn ?_; obtain rfl := Zg H; refine Zc (ag _ _ ⟨_, _, rfl, (leR _), (S.fr' rfl)⟩)
    have H := Zy H M; refine Zo (mv S rfl fun f S => ov S rfl (ZL S (Zz g) rfl rfl ZS) fun f S => ov S rfl (Zj S rfl rfl Z4) fun f S => ?_); have S := S.bool (t := 10) rfl M; refine mv S rfl fun f S => opy S rfl rfl rfl rfl (Zr S rfl) fun f S => opy S rfl rfl rfl rfl (Zj S rfl rfl Z4) fun f S => ov S rfl (ZD S (b := false) rfl rfl) fun f S => Zn ?_; obtain rfl := Zg H; refine Zc (ag _ _ ⟨_, _, rfl, (leR _), (S.fr' rfl)⟩)
  rintro f w ⟨X, v, hq, ah, S⟩; subst hq; have H := az; refine Zc (aw _ _ ?_); rcases Zx (X) with N | N
  · have H := Zw H N; refine ZH S rfl N (sr (mv S rfl fun f S => mw S rfl fun f S => oe (wp_ret (ZR ?_)))); obtain rfl := Zg H; have g := Zp ah g; refine ZB S (ZJ rfl (ZF S rfl)) ⟨[.slice W J L], rfl, g⟩
  have H := Zy H N; refine ZG S rfl N (wp_skip (Zc (av _ _ (Zh fun _ aA => ?_)))); obtain ⟨bo, aB, H⟩ := Zb H; obtain ⟨bp, aC, H⟩ := Zb H; obtain ⟨B, aD, H⟩ := Zb H; obtain ⟨bq, Y, H⟩ := Zb H; refine Zo (mv S rfl fun f S => ?_); have g := Zp ah g; refine ov S rfl (ZL S (Zz g) rfl rfl ZS) fun f S => mv S rfl fun f S => ov S rfl (Zj S rfl rfl (ZKb aB)) fun f S => ov S rfl (Zj S rfl rfl (Zja aC)) fun f S => ov S rfl (Zj S rfl rfl (Zja aD)) fun f S => ?_; obtain ⟨ai, aj⟩ : ∃ c : List Value, c = (List.replicate (B).toNat [.int .u64 ((0 : Int))]).flatten := ⟨_, rfl⟩; obtain ⟨aE, w, aF, S⟩ := Zac ZJc S (l := B) (c := B) (Zea Y).1 (Zea Y).2.1 (Zea Y).2.2.1 (Zea Y).2.2.2 aj; have aG : Rep.rels (Za .u64) v ai (List.replicate (B).toNat ((0 : Int))) := by rw [aj]; exact ZQb (show Rep.rel (Za .u64) _ [.int .u64 ((0 : Int))] _ from (Zq (by decide))) _
  refine Zna wn rfl zl (aF rfl rfl) S fun f S => mw S rfl fun f S => Zn (Zc (aA _ _ (Zh fun _ aH => sr (mv S rfl fun f S => ov S rfl (ZL S (Zz g) rfl rfl ZS) fun f S => mv S rfl fun f S => oe ?_)))); obtain ⟨aI, aJ, aK⟩ := Zb H; refine ZP (fun f w => ∃ (C : (List Int)) (P : Option Nat) (D : Nat) (Q : Nat) (ac : List Value) (Z : Zd), C = aI ∧ Zd.le v Z ∧ St 58 I o [(5, .slice (mkA P) (D) Q)] [Loc.own P 211 1 (D) Q ac] Z f w ∧ Rep.rels (Za .u64) Z ac C ∧ D = C.length) (fun _ aL => ?_) ?_
  · have H := aJ; refine wp_block ?_; obtain ⟨br, aM, aN⟩ := Zb H; refine Zxa aM (fun aO f w => ∃ (p : (List Int)) (E : Int) (aa : Option Nat) (m : Nat) (G : Nat) (e : List Value) (q : Zd), (p, E) = aO ∧ Zd.le v q ∧ St 58 I o [(1, .int .i64 (n)), (5, .slice (mkA aa) (m) G), (23, .slice W J L), (24, .int .i64 ((((Zi 18446744073709551616 a)).length : Int))), (25, .int .i64 (E))] [Loc.own aa 211 1 (m) G e] q f w ∧ Rep.rels (Za .u64) q e p ∧ m = p.length ∧ inR .i64 E) ⟨_, _, some aE, (B).toNat, (B).toNat, ai, _, rfl, (leR _), (S.fr' rfl), aG, (Zyb (x := (0 : Int))), (by decide)⟩ ?_; rintro _ f w st ⟨p, E, aa, m, G, e, q, hq, ad, S, ab, s, bs⟩ H bt aP aQ; subst hq; refine sr (ov S rfl (Zj S rfl rfl Zfa) fun f S => oe (Zh fun _ aR => ?_)); rcases Zx (decide (E < (((Zi 18446744073709551616 a)).length : Int))) with R | R
    · have H := Zw H R; refine ZH S rfl R (wp_skip (Zc (aR _ _ (Zh fun _ aS => wp_block (Zh fun _ aT => ?_))))); obtain ⟨bu, ae, H⟩ := Zb H; refine Zo (mv S rfl fun f S => ?_); have g := Zp ad g; obtain ⟨_, aU, aV, bv, rfl, aW, aX⟩ := Zta g (Zm ae).2.1; obtain ⟨rfl, aY⟩ := aX; refine ov S rfl (ZW S rfl rfl ZS (Zm ae).1 (ltI (Zz g) (Zm ae).2.2.1)) fun f S => ov S rfl (Z7 S rfl Zya (S.view aW)) fun f S => mw S rfl fun f S => mw S rfl fun f S => Zn (Zc (aT _ _ (Zh fun _ aZ => ?_))); obtain ⟨bw, a0, H⟩ := Zb H; obtain ⟨d, a1, H⟩ := Zb H; obtain ⟨h, T, H⟩ := Zb H; obtain ⟨bx, a2, H⟩ := Zb H; obtain ⟨k, a3, H⟩ := Zb H; obtain ⟨bz, U, H⟩ := Zb H; refine Zaa (fl := #[true, true, true, true, true, true, true, true, true, true, true, true, true, false]) Z9 (by kernel_rfl) S ?_; intro ops O F w S; refine rfa O F 0 rfl rfl S (Zr S rfl) fun f S => rfa O F 1 rfl rfl S (Zr S rfl) fun f S => rfa O F 2 rfl rfl S (Zr S rfl) fun f S => rfa O F 3 rfl rfl S (Zj S rfl rfl (ZKb a0)) fun f S => rfa O F 4 rfl rfl S (Zj S rfl rfl (Zja a1)) fun f S => ?_; obtain ⟨ak, rfl⟩ := ZSb S (j := 0) rfl (Z1b s (Zm T).2.2.2); have al := ZIa ab (Zm T).2.1; obtain ⟨bA, am⟩ : ∃ c, (List.take (Za .u64).n (List.drop ((d).toNat * (Za .u64).n) e)) = c := ⟨_, rfl⟩
      rw [am] at al; obtain ⟨rfl, bB⟩ := al; refine rfa O F 5 rfl rfl S (ZW S rfl rfl ZS (Zm T).1 (ltI s (Zm T).2.2.1)) fun f S => rfa O F 6 rfl rfl S (Z7 S rfl Zya (ZYc S (j := 0) rfl am (ltN s (Zm T).2.2.2) 0 [.int .u64 (h)] rfl zl)) fun f S => rfa O F 7 rfl rfl S (Zr S rfl) fun f S => rfa O F 8 rfl rfl S (Zr S rfl) fun f S => rfa O F 9 rfl rfl S (Zj S rfl rfl (Zqc a2)) fun f S => rfa O F 10 rfl rfl S (Zj S rfl rfl (Zce a3)) fun f S => rfa O F 11 rfl rfl S (Zj S rfl rfl Z6e) fun f S => ?_; have an := ZIa ab (Zm U).2.1; obtain ⟨bC, a4⟩ : ∃ c, (List.take (Za .u64).n (List.drop ((d).toNat * (Za .u64).n) e)) = c := ⟨_, rfl⟩; rw [a4] at an; obtain ⟨rfl, bD⟩ := an; refine rfa O F 12 rfl rfl S (ZW S rfl rfl ZS (Zm U).1 (ltI s (Zm U).2.2.1)) fun f S => go1 O F 13 ?_; obtain ⟨w, a5, S⟩ := ZRb S Zya (off := 0 + (d).toNat * 1) (z := .int .u64 (orI .u64 h k)) (cs := [.int .u64 (orI .u64 h k)]) (Zwb rfl) rfl (i := 0) rfl (ZUb S (j := 0) rfl (ltN s (Zm U).2.2.2)) (by first | rfl | simp [ZSa]); have ao : Rep.rels (Za .u64) q (List.take (0 + (d).toNat * 1) e ++ [Value.int IntKind.u64 (orI .u64 h k)] ++ List.drop (0 + (d).toNat * 1 + 1) e) (p.set (d).toNat (orI .u64 h k)) := ZIb ab (Zm U).2.2.2 (show Rep.rel (Za .u64) q [.int .u64 (orI .u64 h k)] _ from (Zq (Zva _ _))) rfl rfl
      have af : m = (p.set (d).toNat (orI .u64 h k)).length := ZGb s; refine nxs [0, 1, 2, 3, 4, 5, 6, 7, 8, 9, 10, 11, 12] [] O rfl rfl (a5 rfl rfl) (⟨Zl, ZZ O F (Zc (aZ _ _ ?_))⟩); obtain ⟨bE, a6, H⟩ := Zb H; obtain ⟨bF, a7, H⟩ := Zb H; obtain ⟨r, a8, H⟩ := Zb H; obtain ⟨bG, a9, H⟩ := Zb H; obtain ⟨bH, ba, H⟩ := Zb H; obtain ⟨u, ap, H⟩ := Zb H; obtain ⟨bI, V, H⟩ := Zb H; refine Zo (mv S rfl fun f S => mv S rfl fun f S => mv S rfl fun f S => ov S rfl (Zj S rfl rfl (ZKb a6)) fun f S => ov S rfl (Zj S rfl rfl (Zja a7)) fun f S => ov S rfl (Zj S rfl rfl (Zja a8)) fun f S => mv S rfl fun f S => mv S rfl fun f S => ov S rfl (Zj S rfl rfl (Zqc a9)) fun f S => ov S rfl (Zj S rfl rfl (ZHa ba)) fun f S => ov S rfl (Zj S rfl rfl (ZAb ap)) fun f S => ?_); have aq := ZIa ao (Zm V).2.1; obtain ⟨bJ, bb⟩ : ∃ c, (List.take (Za .u64).n (List.drop ((r).toNat * (Za .u64).n) (List.take (0 + (d).toNat * 1) e ++ [Value.int IntKind.u64 (orI .u64 h k)] ++ List.drop (0 + (d).toNat * 1 + 1) e))) = c := ⟨_, rfl⟩; rw [bb] at aq; obtain ⟨rfl, bK⟩ := aq; refine ov S rfl (ZW S rfl rfl ZS (Zm V).1 (ltI af (Zm V).2.2.1)) fun f S => ?_; obtain ⟨w, bc, S⟩ := ZRb S Zya (off := 0 + (r).toNat * 1) (z := .int .u64 (u)) (cs := [.int .u64 (u)]) (Zwb rfl) rfl (i := 0) rfl (ZUb S (j := 0) rfl (ltN af (Zm V).2.2.2)) (by first | rfl | simp [ZSa])
      have bd : Rep.rels (Za .u64) q (List.take (0 + (r).toNat * 1) ((List.take (0 + (d).toNat * 1) e ++ [Value.int IntKind.u64 (orI .u64 h k)] ++ List.drop (0 + (d).toNat * 1 + 1) e)) ++ [Value.int IntKind.u64 (u)] ++ List.drop (0 + (r).toNat * 1 + 1) ((List.take (0 + (d).toNat * 1) e ++ [Value.int IntKind.u64 (orI .u64 h k)] ++ List.drop (0 + (d).toNat * 1 + 1) e))) (((p.set (d).toNat (orI .u64 h k))).set (r).toNat u) := ZIb ao (Zm V).2.2.2 (show Rep.rel (Za .u64) q [.int .u64 (u)] _ from (Zq (ZId aY ap))) rfl rfl; have be : m = (((p.set (d).toNat (orI .u64 h k))).set (r).toNat u).length := ZGb af; refine Z1 wn rfl (bc rfl rfl) (Zn ?_); have S := S.fr' (σ' := [(1, .int .i64 (n)), (5, .slice (mkA (some ak)) (m) G), (23, .slice (some ⟨aU, aV, none⟩) J L), (24, .int .i64 ((((Zi 18446744073709551616 a)).length : Int))), (25, .int .i64 (E))]) rfl; refine Zua (Zc (aS _ _ ?_)); obtain ⟨bL, ar, H⟩ := Zb H; refine Zo (ov S rfl (Zj S rfl rfl (Zja ar)) fun f S => mv S rfl fun f S => Zn ?_); obtain rfl := Zg H; refine aP _ rfl _ _ ⟨_, _, some ak, m, G, (List.take (0 + (r).toNat * 1) ((List.take (0 + (d).toNat * 1) e ++ [Value.int IntKind.u64 (orI .u64 h k)] ++ List.drop (0 + (d).toNat * 1 + 1) e)) ++ [Value.int IntKind.u64 (u)] ++ List.drop (0 + (r).toNat * 1 + 1) ((List.take (0 + (d).toNat * 1) e ++ [Value.int IntKind.u64 (orI .u64 h k)] ++ List.drop (0 + (d).toNat * 1 + 1) e))), _, rfl, ad, (S.fr' rfl), bd, be, (Zha ar).2⟩
    have H := Zy H R; refine ZG S rfl R (wp_exit (ZU ?_)); obtain rfl := Zg H; have hq := aQ _ rfl; subst hq; have H := aN; refine ZU (Zoa ?_); obtain rfl := Zg H; refine Zc (aL _ _ ⟨_, aa, m, G, e, _, rfl, (leT (leR _) ad), (S.fr' rfl), ab, s⟩)
  rintro f w ⟨C, P, D, Q, ac, Z, hq, bM, S, bf, bg⟩; subst hq; have H := aK; refine Zc (aH _ _ (Zh fun _ bh => ?_)); obtain ⟨bN, bi, H⟩ := Zb H; refine Zo (mv S rfl fun f S => ?_); obtain ⟨bO, bP, S, bj⟩ := S.pubSlice (i := 0) (A := (Za .u64)) (l := C) (ℓ' := []) rfl rfl bg bf rfl; refine opc S rfl (Zk S [.slice (mkA P) (D) Q] ZEd rfl rfl) (ZKd S.vin (show Rep.rel (ZA (Za .u64)) _ [.slice (mkA P) (D) Q] C from bj) bi) ?_; rintro _ bQ f w bR ⟨bS, rfl, au⟩ S; obtain ⟨bk, bm, bn, rfl⟩ := Z3 au; refine mw S rfl fun f S => Zn (Zc (bh _ _ (wp_ret ?_))); obtain rfl := Zg H; refine ZB S (ZJ rfl (ZF S rfl)) ⟨[.slice bk bm bn], rfl, au⟩
theorem Z3i {c : World} {b : Zd} (hv : VIn b c) {d : List Value} {a : Nat} (f : Rep.rel ZC b d a) {c1 : List Value} {n : Int} (g : Rep.rel (Za .i64) b c1 n) {z : Nat} (hm : Ztc a n = some z) :
    Ret Tryz.prog 177 #[ZC.val d, (Za .i64).val c1] c b (fun y v' => ∃ e, y = ZC.val e ∧ ZC.rel v' e z) :=
  left_w hv f g (Zfq hm)
theorem right_w {C : World} {g : Zd} (hv : VIn g C) {c0 : List Value} {a : Nat} (h : Rep.rel ZC g c0 a) {c1 : List Value} {n : Int} (p1 : Rep.rel (Za .i64) g c1 n) {z : Nat} (H : Zyg a n = some z) : Ret Tryz.prog 179 #[ZC.val c0, (Za .i64).val c1] C g (fun y v' => ∃ r0, y = ZC.val r0 ∧ ZC.rel v' r0 z) := by
  obtain ⟨q1, P, Q, rfl⟩ := Z3 h; obtain ⟨rfl, r4⟩ := p1; refine ZQ (K := 65) (args := [.slice q1 P Q, .int .i64 (n)]) hv Tryz.func179 rfl rfl zl fun f S => ?_; unfold Zyg at H; refine sr (mw S rfl fun f S => oe (Zh fun _ ax => Zh fun _ ay => ?_)); obtain ⟨az, aA, H⟩ := Zb H; refine Zo (mv S rfl fun f S => ov S rfl (Zj S rfl rfl (ZKb aA)) fun f S => mv S rfl fun f S => ov S rfl (ZL S (Zz h) rfl rfl ZS) fun f S => ov S rfl (Zj S rfl rfl Zkb) fun f S => Zn (Zc (ay _ _ ?_))); rcases Zx (decide ((((Zi 18446744073709551616 a)).length : Int) ≤ az)) with D | D
  · have H := Zw H D; refine ZH S rfl D (sr (mw S rfl fun f S => oe (wp_ret (ZR ?_)))); obtain rfl := Zg H; refine ZB S (ZJ rfl (ZF S rfl)) ⟨[.slice none 0 0], rfl, (ZBf _)⟩
  have H := Zy H D; refine ZG S rfl D (wp_skip (Zc (ax _ _ (Zh fun _ aB => ?_)))); obtain ⟨bx, aC, H⟩ := Zb H; obtain ⟨k, aD, H⟩ := Zb H; obtain ⟨bz, R, H⟩ := Zb H; refine Zo (mv S rfl fun f S => ov S rfl (ZL S (Zz h) rfl rfl ZS) fun f S => mv S rfl fun f S => ov S rfl (Zj S rfl rfl (ZKb aC)) fun f S => ov S rfl (Zj S rfl rfl (ZHa aD)) fun f S => ?_); obtain ⟨ai, aj⟩ : ∃ c : List Value, c = (List.replicate (k).toNat [.int .u64 ((0 : Int))]).flatten := ⟨_, rfl⟩; obtain ⟨aE, w, aF, S⟩ := Zac ZJc S (l := k) (c := k) (Zea R).1 (Zea R).2.1 (Zea R).2.2.1 (Zea R).2.2.2 aj; have aG : Rep.rels (Za .u64) g ai (List.replicate (k).toNat ((0 : Int))) := by rw [aj]; exact ZQb (show Rep.rel (Za .u64) _ [.int .u64 ((0 : Int))] _ from (Zq (by decide))) _
  refine Zna wn rfl zl (aF rfl rfl) S fun f S => mw S rfl fun f S => Zn (Zc (aB _ _ (Zh fun _ aH => sr (mv S rfl fun f S => ov S rfl (ZL S (Zyb (x := (0 : Int))) rfl rfl ZS) fun f S => mv S rfl fun f S => oe ?_)))); obtain ⟨aI, aJ, aK⟩ := Zb H; refine ZP (fun f w => ∃ (t : (List Int)) (E : Option Nat) (u : Nat) (G : Nat) (ac : List Value) (T : Zd), t = aI ∧ Zd.le g T ∧ St 65 C g [(5, .slice (mkA E) (u) G)] [Loc.own E 211 1 (u) G ac] T f w ∧ Rep.rels (Za .u64) T ac t ∧ u = t.length) (fun _ aL => ?_) ?_
  · have H := aJ; refine wp_block ?_; obtain ⟨bA, aM, aN⟩ := Zb H; refine Zxa aM (fun aO f w => ∃ (p : (List Int)) (b : Int) (U : Option Nat) (m : Nat) (r : Nat) (d : List Value) (o : Zd), (p, b) = aO ∧ Zd.le g o ∧ St 65 C g [(0, .slice q1 P Q), (1, .int .i64 (n)), (5, .slice (mkA U) (m) r), (19, .int .i64 ((((List.replicate (k).toNat ((0 : Int)))).length : Int))), (20, .int .i64 (b))] [Loc.own U 211 1 (m) r d] o f w ∧ Rep.rels (Za .u64) o d p ∧ m = p.length ∧ inR .i64 b) ⟨_, _, some aE, (k).toNat, (k).toNat, ai, _, rfl, (leR _), (S.fr' rfl), aG, (Zyb (x := (0 : Int))), (by decide)⟩ ?_; rintro _ f w st ⟨p, b, U, m, r, d, o, hq, ad, S, ae, I, bB⟩ H bC aP aQ; subst hq; refine sr (ov S rfl (Zj S rfl rfl Zfa) fun f S => oe (Zh fun _ aR => ?_)); rcases Zx (decide (b < (((List.replicate (k).toNat ((0 : Int)))).length : Int))) with J | J
    · have H := Zw H J; refine ZH S rfl J (wp_skip (Zc (aR _ _ (Zh fun _ aS => wp_block (sr (mv S rfl fun f S => mw S rfl fun f S => oe (Zh fun _ aT => ?_))))))); obtain ⟨bD, aU, H⟩ := Zb H; obtain ⟨bE, aV, H⟩ := Zb H; obtain ⟨bF, af, H⟩ := Zb H; obtain ⟨bG, aW, H⟩ := Zb H; obtain ⟨e, ak, H⟩ := Zb H; obtain ⟨bH, v, H⟩ := Zb H; refine Zo (mv S rfl fun f S => mv S rfl fun f S => mv S rfl fun f S => mv S rfl fun f S => mv S rfl fun f S => ov S rfl (Zj S rfl rfl (ZKb aU)) fun f S => ov S rfl (Zj S rfl rfl (Zja aV)) fun f S => ?_); have h := Zp ad h; obtain ⟨_, al, am, bI, rfl, aX, aY⟩ := Zta h (Zm af).2.1; obtain ⟨rfl, aZ⟩ := aY; refine ov S rfl (ZW S rfl rfl ZS (Zm af).1 (ltI (Zz h) (Zm af).2.2.1)) fun f S => ov S rfl (Z7 S rfl Zya (S.view aX)) fun f S => mv S rfl fun f S => ov S rfl (Zj S rfl rfl (Zqc aW)) fun f S => ov S rfl (Zj S rfl rfl (ZAb ak)) fun f S => ?_; obtain ⟨ag, rfl⟩ := ZSb S (j := 0) rfl (Z1b I (Zm v).2.2.2); have an := ZIa ae (Zm v).2.1; obtain ⟨bJ, a0⟩ : ∃ c, (List.take (Za .u64).n (List.drop ((b).toNat * (Za .u64).n) d)) = c := ⟨_, rfl⟩; rw [a0] at an; obtain ⟨rfl, bK⟩ := an; refine ov S rfl (ZW S rfl rfl ZS (Zm v).1 (ltI I (Zm v).2.2.1)) fun f S => ?_
      obtain ⟨w, a1, S⟩ := ZRb S Zya (off := 0 + (b).toNat * 1) (z := .int .u64 (e)) (cs := [.int .u64 (e)]) (Zwb rfl) rfl (i := 0) rfl (ZUb S (j := 0) rfl (ltN I (Zm v).2.2.2)) (by first | rfl | simp [ZSa]); have V : Rep.rels (Za .u64) o (List.take (0 + (b).toNat * 1) d ++ [Value.int IntKind.u64 (e)] ++ List.drop (0 + (b).toNat * 1 + 1) d) (p.set (b).toNat e) := ZIb ae (Zm v).2.2.2 (show Rep.rel (Za .u64) o [.int .u64 (e)] _ from (Zq (ZId aZ ak))) rfl rfl; have B : m = (p.set (b).toNat e).length := ZGb I; refine Z1 wn rfl (a1 rfl rfl) (Zn (Zc (aT _ _ (Zh fun _ a2 => ?_)))); obtain ⟨bL, a3, H⟩ := Zb H; obtain ⟨bM, a4, H⟩ := Zb H; obtain ⟨ao, a5, H⟩ := Zb H; refine Zo (mv S rfl fun f S => mv S rfl fun f S => ov S rfl (Zj S rfl rfl (ZKb a3)) fun f S => ov S rfl (Zj S rfl rfl (Zja a4)) fun f S => ov S rfl (Zj S rfl rfl (Zja a5)) fun f S => mv S rfl fun f S => ov S rfl (ZL S (Zz h) rfl rfl ZS) fun f S => ov S rfl (Zj S rfl rfl Zfa) fun f S => Zn ?_); have S := S.fr' (σ' := [(0, .slice (some ⟨al, am, none⟩) P Q), (1, .int .i64 (n)), (5, .slice (mkA (some ag)) (m) r), (6, .int .i64 (b)), (19, .int .i64 ((((List.replicate (k).toNat ((0 : Int)))).length : Int))), (20, .int .i64 (b)), (43, .bool (decide (ao < (((Zi 18446744073709551616 a)).length : Int))))]) rfl
      refine Zc (a2 _ _ ?_); obtain ⟨a6, a7, a8⟩ := Zb H; refine ZP (fun f w => ∃ (W : (List Int)) (X : Option Nat) (L : Nat) (Y : Nat) (Z : List Value) (aa : Zd), W = a6 ∧ Zd.le o aa ∧ St 65 C g [(0, .slice (some ⟨al, am, none⟩) P Q), (1, .int .i64 (n)), (5, .slice (mkA X) (L) Y), (19, .int .i64 ((((List.replicate (k).toNat ((0 : Int)))).length : Int))), (20, .int .i64 (b))] [Loc.own X 211 1 (L) Y Z] aa f w ∧ Rep.rels (Za .u64) aa Z W ∧ L = W.length) (fun _ ap => ?_) ?_
      · have H := a7; rcases Zx (decide (ao < (((Zi 18446744073709551616 a)).length : Int))) with M | M
        · have H := Zw H M; refine ZH S rfl M ?_; obtain ⟨q, ab, H⟩ := Zb H; obtain ⟨bN, a9, H⟩ := Zb H; obtain ⟨bO, ba, H⟩ := Zb H; obtain ⟨bP, bb, H⟩ := Zb H; obtain ⟨bQ, ah, H⟩ := Zb H; obtain ⟨bR, bc, H⟩ := Zb H; obtain ⟨bS, bd, H⟩ := Zb H; obtain ⟨s, be, H⟩ := Zb H; obtain ⟨bT, N, H⟩ := Zb H; refine Zaa (fl := #[true, true, true, true, true, true, true, true, true, true, true, true, true, true, true, true, true, true, false]) Z9 (by kernel_rfl) S ?_; intro ops O F w S; refine rfa O F 0 rfl rfl S (Zr S rfl) fun f S => rfa O F 1 rfl rfl S (Zr S rfl) fun f S => ?_; have aq := ZIa V (Zm ab).2.1; obtain ⟨bU, ar⟩ : ∃ c, (List.take (Za .u64).n (List.drop ((b).toNat * (Za .u64).n) (List.take (0 + (b).toNat * 1) d ++ [Value.int IntKind.u64 (e)] ++ List.drop (0 + (b).toNat * 1 + 1) d))) = c := ⟨_, rfl⟩; rw [ar] at aq; obtain ⟨rfl, bV⟩ := aq; refine rfa O F 2 rfl rfl S (ZW S rfl rfl ZS (Zm ab).1 (ltI B (Zm ab).2.2.1)) fun f S => rfa O F 3 rfl rfl S (Z7 S rfl Zya (ZYc S (j := 0) rfl ar (ltN B (Zm ab).2.2.2) 0 [.int .u64 (q)] rfl zl)) fun f S => rfa O F 4 rfl rfl S (Zr S rfl) fun f S => rfa O F 5 rfl rfl S (Zr S rfl) fun f S => rfa O F 6 rfl rfl S (Zr S rfl) fun f S => rfa O F 7 rfl rfl S (Zj S rfl rfl (ZKb a9)) fun f S => rfa O F 8 rfl rfl S (Zj S rfl rfl (Zja ba)) fun f S => rfa O F 9 rfl rfl S (Zj S rfl rfl (Zja bb)) fun f S => ?_
          obtain ⟨bW, bf, bg⟩ := Zkd h (Zm ah).2.1; obtain ⟨rfl, bX⟩ := bg; refine rfa O F 10 rfl rfl S (ZW S rfl rfl ZS (Zm ah).1 (ltI (Zz h) (Zm ah).2.2.1)) fun f S => rfa O F 11 rfl rfl S (Z7 S rfl Zya (S.view bf)) fun f S => rfa O F 12 rfl rfl S (Zr S rfl) fun f S => rfa O F 13 rfl rfl S (Zj S rfl rfl (Zqc bc)) fun f S => rfa O F 14 rfl rfl S (Zj S rfl rfl (ZHa bd)) fun f S => rfa O F 15 rfl rfl S (Zj S rfl rfl (Zce be)) fun f S => rfa O F 16 rfl rfl S (Zj S rfl rfl Z6e) fun f S => ?_; have au := ZIa V (Zm N).2.1; obtain ⟨bY, bh⟩ : ∃ c, (List.take (Za .u64).n (List.drop ((b).toNat * (Za .u64).n) (List.take (0 + (b).toNat * 1) d ++ [Value.int IntKind.u64 (e)] ++ List.drop (0 + (b).toNat * 1 + 1) d))) = c := ⟨_, rfl⟩; rw [bh] at au; obtain ⟨rfl, bZ⟩ := au; refine rfa O F 17 rfl rfl S (ZW S rfl rfl ZS (Zm N).1 (ltI B (Zm N).2.2.1)) fun f S => go1 O F 18 ?_; obtain ⟨w, bi, S⟩ := ZRb S Zya (off := 0 + (b).toNat * 1) (z := .int .u64 (orI .u64 q s)) (cs := [.int .u64 (orI .u64 q s)]) (Zwb rfl) rfl (i := 0) rfl (ZUb S (j := 0) rfl (ltN B (Zm N).2.2.2)) (by first | rfl | simp [ZSa]); have bj : Rep.rels (Za .u64) o (List.take (0 + (b).toNat * 1) ((List.take (0 + (b).toNat * 1) d ++ [Value.int IntKind.u64 (e)] ++ List.drop (0 + (b).toNat * 1 + 1) d)) ++ [Value.int IntKind.u64 (orI .u64 q s)] ++ List.drop (0 + (b).toNat * 1 + 1) ((List.take (0 + (b).toNat * 1) d ++ [Value.int IntKind.u64 (e)] ++ List.drop (0 + (b).toNat * 1 + 1) d))) (((p.set (b).toNat e)).set (b).toNat (orI .u64 q s)) := ZIb V (Zm N).2.2.2 (show Rep.rel (Za .u64) o [.int .u64 (orI .u64 q s)] _ from (Zq (Zva _ _))) rfl rfl
          have bk : m = (((p.set (b).toNat e)).set (b).toNat (orI .u64 q s)).length := ZGb B; refine nxs [0, 1, 2, 3, 4, 5, 6, 7, 8, 9, 10, 11, 12, 13, 14, 15, 16, 17] [] O rfl rfl (bi rfl rfl) (⟨Zl, ZZ O F ?_⟩); obtain rfl := Zg H; refine Zc (ap _ _ ⟨_, some ag, m, r, (List.take (0 + (b).toNat * 1) ((List.take (0 + (b).toNat * 1) d ++ [Value.int IntKind.u64 (e)] ++ List.drop (0 + (b).toNat * 1 + 1) d)) ++ [Value.int IntKind.u64 (orI .u64 q s)] ++ List.drop (0 + (b).toNat * 1 + 1) ((List.take (0 + (b).toNat * 1) d ++ [Value.int IntKind.u64 (e)] ++ List.drop (0 + (b).toNat * 1 + 1) d))), _, rfl, (leR _), (S.fr' rfl), bj, bk⟩)
        have H := Zy H M; refine ZG S rfl M (wp_skip ?_); obtain rfl := Zg H; refine Zc (ap _ _ ⟨_, some ag, m, r, (List.take (0 + (b).toNat * 1) d ++ [Value.int IntKind.u64 (e)] ++ List.drop (0 + (b).toNat * 1 + 1) d), _, rfl, (leR _), (S.fr' rfl), V, B⟩)
      rintro f w ⟨W, X, L, Y, Z, aa, hq, bm, S, bn, bo⟩; subst hq; have H := a8; refine Zua (Zc (aS _ _ ?_)); obtain ⟨b0, av, H⟩ := Zb H; refine Zo (ov S rfl (Zj S rfl rfl (Zja av)) fun f S => mv S rfl fun f S => Zn ?_); obtain rfl := Zg H; refine aP _ rfl _ _ ⟨_, _, X, L, Y, Z, _, rfl, (leT ad bm), (S.fr' rfl), bn, bo, (Zha av).2⟩
    have H := Zy H J; refine ZG S rfl J (wp_exit (ZU ?_)); obtain rfl := Zg H; have hq := aQ _ rfl; subst hq; have H := aN; refine ZU (Zoa ?_); obtain rfl := Zg H; refine Zc (aL _ _ ⟨_, U, m, r, d, _, rfl, (leT (leR _) ad), (S.fr' rfl), ae, I⟩)
  rintro f w ⟨t, E, u, G, ac, T, hq, b1, S, bp, bq⟩; subst hq; have H := aK; refine Zc (aH _ _ (Zh fun _ br => ?_)); obtain ⟨b2, bs, H⟩ := Zb H; refine Zo (mv S rfl fun f S => ?_); obtain ⟨b3, b4, S, bt⟩ := S.pubSlice (i := 0) (A := (Za .u64)) (l := t) (ℓ' := []) rfl rfl bq bp rfl; refine opc S rfl (Zk S [.slice (mkA E) (u) G] ZEd rfl rfl) (ZKd S.vin (show Rep.rel (ZA (Za .u64)) _ [.slice (mkA E) (u) G] t from bt) bs) ?_; rintro _ b5 f w b6 ⟨b7, rfl, aw⟩ S; obtain ⟨bu, bv, bw, rfl⟩ := Z3 aw; refine mw S rfl fun f S => Zn (Zc (br _ _ (wp_ret ?_))); obtain rfl := Zg H; refine ZB S (ZJ rfl (ZF S rfl)) ⟨[.slice bu bv bw], rfl, aw⟩
theorem right_c {c : World} {b : Zd} (hv : VIn b c) {d : List Value} {a : Nat} (g : Rep.rel ZC b d a) {c1 : List Value} {n : Int} (e : Rep.rel (Za .i64) b c1 n) {z : Nat} (hm : ZKf a n = some z) :
    Ret Tryz.prog 179 #[ZC.val d, (Za .i64).val c1] c b (fun y v' => ∃ f, y = ZC.val f ∧ ZC.rel v' f z) :=
  right_w hv g e (ZFp e.2 hm)
end Go.Eng
