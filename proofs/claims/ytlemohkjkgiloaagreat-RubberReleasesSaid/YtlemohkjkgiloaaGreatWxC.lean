/- Lemmas towards the statement: the engine of the walks, the functions' models, laws and walks, part 3. Conditions: as each states. -/
import Derived.Lib.AppendStr
import Derived.Lib.Builder
import Derived.Lib.UnsafeStr
import Derived.Test.YtlemohkjkgiloaaGreatWxB
set_option linter.all false
set_option maxRecDepth 100000
namespace Go.Eng
def Zjb (n:Nat):Prop := (Zm 4294967296 n).length≤68719476736
instance (n:Nat):Decidable (Zjb n) := inferInstanceAs (Decidable (_≤_))
def Zrd (n m:Nat):Option (Nat×Nat) := if Zjb n∧Zjb m∧m ≠ 0 then some (n / m, n % m) else none
def rgcF (n m:Nat):Option Nat := if Zjb n∧Zjb m then some (Nat.gcd n m) else none
def Zyb (s:Bool) (n d:Nat):Option Rat := if Zjb n∧Zjb d∧d ≠ 0 then some (mkRat (sgn s n) d) else none
def Z5f (n:Nat):Option (List UInt8) := if Zjb n then some (ZJb n) else none
def Zei (x:Rat):Option Rat := if okQ x then some (-x) else none
def ZAd (x y:Rat):Option Rat := if smQ x∧smQ y then some (x+y) else none
def Zbc (x y:Rat):Option Rat := if smQ x∧smQ y then some (x - y) else none
def Zwe (x y:Rat):Option Rat := if smQ x∧smQ y then some (x * y) else none
def Z7h (x y:Rat):Option (Rat×Int) := if smQ x∧smQ y then some (if y = 0 then (0, 3) else (x / y, 0)) else none
def ZEe (x y:Rat):Option Rat := if smQ x∧smQ y then some (if y = 0 then 0 else x / y) else none
def Z3c (x y:Rat):Option Int := if smQ x∧smQ y then some (x - y).num.sign else none
def Zai (x:Rat):Option (List UInt8) := if okQ x then some (txtQ x) else none
def ZUd (x:Rat):Option (List UInt8) := if okQ x then some (txtQ x) else none
def Z0f (n:Nat):Option (List UInt8) := if okN n then some (ZJb n) else none
def Zsg (s:List UInt8) (c:Int):Option (List UInt8) := if 0≤c∧s.length * c.toNat≤140737488355328 then some (List.replicate c.toNat s).flatten else none
noncomputable def Zyh (a:Nat) (b:Nat):Option (Nat×Nat) :=
 bnd (ZMd a b) fun t =>
 ifb (decide (t < (0:Int)))
 (some (((0:Nat),a)))
 (ifb (((((Zm 4294967296 b)).length:Int)) == ((1:Int)))
 (bnd (idx ((Zm 4294967296 b)) ((0:Int))) fun u =>
 bnd (Znf a u) fun l =>
 bnd (ZYc (IntKind.u64.wrap l.2)) fun v =>
 some ((l.1,v)))
 (bnd (chk .i64 (((32:Int)) * ((((Zm 4294967296 b)).length:Int)))) fun w =>
 bnd (ZHg b) fun x =>
 bnd (chk .i64 (w - x)) fun i =>
 bnd (ZLc b i) fun c =>
 bnd (ZLc a i) fun y =>
 bnd (chk .i64 (((((Zm 4294967296 a)).length:Int)) - ((((Zm 4294967296 c)).length:Int)))) fun z =>
 bnd (chk .i64 (z+((2:Int)))) fun g =>
 bnd (mk 4 g g) fun ae =>
 bnd (chk .i64 (((((List.replicate (g).toNat ((0:Int)))).length:Int)) - ((1:Int)))) fun A =>
 bnd (bnd (Zca (fun s:Nat×(List Int)×Int=>match s with
 | (e,h,d) =>
 (ifb (decide ((0:Int)≤d))
 (bnd (bnd (ifb (decide (d < (((Zm 4294967296 e)).length:Int)))
 (bnd (Zub ((Zm 4294967296 e)) d ((((Zm 4294967296 e)).length:Int))) fun B =>
 some B)
 (some (([]:(List Int)))))
 (fun (f:(List Int)) =>
 (bnd (ZDc f) fun C =>
 bnd (ZMd C c) fun D =>
 ifb (decide (D < (0:Int)))
 (some ((e,h)))
 (bnd (chk .i64 (((((Zm 4294967296 c)).length:Int)) - ((1:Int)))) fun E =>
 bnd (idx f E) fun m =>
 bnd (ifb (decide ((((Zm 4294967296 c)).length:Int) < (f.length:Int)))
 (bnd (idx f ((((Zm 4294967296 c)).length:Int))) fun F =>
 bnd (ZPb .u64 (IntKind.u64.wrap F) ((32:Int))) fun G =>
 some (orI .u64 (IntKind.u64.wrap m) G))
 (some (IntKind.u64.wrap m)))
 (fun (H:Int) =>
 (bnd (chk .i64 (((((Zm 4294967296 c)).length:Int)) - ((1:Int)))) fun I =>
 bnd (idx ((Zm 4294967296 c)) I) fun J =>
 bnd (quo .u64 H (IntKind.u64.wrap J)) fun n =>
 bnd (ifb (decide ((4294967295:Int) < n))
 (some ((4294967295:Int)))
 (some n))
 (fun (o:Int) =>
 (bnd (ZYc o) fun K =>
 bnd (Zkb c K) fun L =>
 bnd (bnd (Zca (fun s:Int×Nat=>match s with
 | (q,j) =>
 (bnd (ZDc f) fun M =>
 bnd (ZMd j M) fun N =>
 ifb (decide ((0:Int) < N))
 (bnd (ZJc j c) fun O =>
 some (.inl ((IntKind.u64.wrap (q - ((1:Int))),O))))
 (some (.inr ((q,j)))))) Zwa ((o,L)))
 (fun (p:Int×Nat)=>match p with
 | (P,Q) =>
 (some ((P,Q)))))
 (fun (p:Int×Nat)=>match p with
 | (R,S) =>
 (bnd (idx h d) fun af =>
 bnd (Zub ((Zm 4294967296 e)) ((0:Int)) d) fun k =>
 bnd (Zcb 4 (([]:(List Int)) ++ k)) fun ag =>
 bnd (ZDc f) fun T =>
 bnd (ZJc T S) fun r =>
 bnd (Zcb 4 ((([]:(List Int)) ++ k) ++ ((Zm 4294967296 r)))) fun ah =>
 bnd (Zac (((([]:(List Int)) ++ k) ++ ((Zm 4294967296 r))))) fun U =>
 some ((U,(h.set (d).toNat (IntKind.u32.wrap R))))))))))))))
 (fun (p:Nat×(List Int))=>match p with
 | (V,W) =>
 (bnd (chk .i64 (d - ((1:Int)))) fun X =>
 some (.inl ((V,W,X))))))
 (some (.inr ((e,h)))))) Zwa ((y,(List.replicate (g).toNat ((0:Int))),A)))
 (fun (p:Nat×(List Int))=>match p with
 | (Y,Z) =>
 (some ((Y,Z)))))
 (fun (p:Nat×(List Int))=>match p with
 | (aa,ab) =>
 (bnd (Zac ab) fun ac =>
 bnd (Zlg aa i) fun ad =>
 some ((ac,ad))))))
theorem Zql {B n:Nat} (hB:2≤B) (w:Nat):(Zm B n).drop w = Zm B (n / B ^ w) := by
  induction w generalizing n with
  | zero => rw [List.drop_zero, Nat.pow_zero, Nat.div_one]
  | succ w ih =>
    by_cases h:n = 0
    · subst h; rw [Zbb, Nat.zero_div, Zbb]; rfl
    · rw [Z9c hB h, List.drop_succ_cons, ih, Nat.div_div_eq_div_mul, Nat.pow_succ, Nat.mul_comm B]
theorem Zgr {B n:Nat} (hB:2≤B) (w:Nat) (h:w≤(Zm B n).length):val B ((Zm B n).take w) = n % B ^ w := by
  have h1 := ZFd B (Zm B n) w h; rw [Zeb hB, Z1m hB] at h1; have h2 := Nat.mod_add_div n (B ^ w); omega
theorem Zel {B n i:Nat} (hB:2≤B) (h:i < (Zm B n).length):idx (Zm B n) (i:Int) = some ((n / B ^ i % B:Nat):Int) := by
  rw [Zla h]; congr 1; have h1 := List.drop_eq_getElem_cons h; rw [Zql hB] at h1; have h2:n / B ^ i ≠ 0 := by
    intro h2; rw [h2, Zbb] at h1
    cases h1
  rw [Z9c hB h2] at h1; exact (List.cons.inj h1).1.symm
theorem ZKq {B n L:Nat} (hB:2≤B) (h1:B ^ L≤n) (h2:n < B ^ (L+1)):(Zm B n).length = L+1 := by
  have h3 := ZIf hB h2; have h4 := Z6c hB n; have h5:¬ (Zm B n).length≤L := by
    intro h5; have := Nat.pow_le_pow_right (n := B) (by omega) h5; omega
  omega
theorem Znm {n m:Nat}:decide (Zlb n m < 0) = decide (n < m) := by
  unfold Zlb; by_cases h:n < m
  · rw [if_pos h, decide_eq_true h]; rfl
  · rw [if_neg h, decide_eq_false h]; split <;> rfl
theorem Znn {n m:Nat}:decide (0 < Zlb n m) = decide (m < n) := by
  unfold Zlb; by_cases h:n < m
  · rw [if_pos h, decide_eq_false (show ¬ m < n by omega)]; rfl
  · rw [if_neg h]; by_cases h2:m < n
    · rw [if_pos h2, decide_eq_true h2]; rfl
    · rw [if_neg h2, decide_eq_false h2]; rfl
theorem ZUh {n k:Nat} (h:n < 4294967296 ^ k):(Zm 4294967296 n).length≤k := ZIf (by decide) h
theorem quo_end {a b q R rest:Nat} (hb:0 < b) (hR:0 < R) (h:rest < b * R) (e:a * R = rest+b * R * q):q = a / b∧rest / R = a % b := by
  have h1:a * R / (b * R) = q := by rw [e, Nat.add_mul_div_left _ _ (Nat.mul_pos hb hR), Nat.div_eq_of_lt h, Nat.zero_add]
  rw [Nat.mul_div_mul_right _ _ hR] at h1; have h2:a * R % (b * R) = rest := by rw [e, Nat.add_mul_mod_self_left, Nat.mod_eq_of_lt h]
  rw [Nat.mul_mod_mul_right] at h2; exact ⟨h1.symm, by rw [← h2, Nat.mul_div_cancel _ hR]⟩
theorem ZTp {a b:Nat} (ha:Zjb a) (hb:Zjb b) (hb0:b ≠ 0):Zyh a b = some (a / b, a % b) := by
  unfold Zyh ZMd; rw [Zd, Znm]; by_cases hab:a < b
  · rw [decide_eq_true hab, ZH, Nat.div_eq_of_lt hab, Nat.mod_eq_of_lt hab]
  rw [decide_eq_false hab, ZD]; unfold Zjb at ha hb; have hLpos := List.length_pos_iff.2 ((Zud (n := b) (B := 4294967296) (by decide)).2 hb0); by_cases hL1:(Zm 4294967296 b).length = 1
  · rw [hL1]; have hb1:b < 4294967296 := by
      have := Z6c (B := 4294967296) (by decide) b; rw [hL1] at this; simpa using this
    rw [show (((1:Nat):Int) == 1) = true from rfl, ZH, ZHk (by decide) hb0 hb1, Zd]; unfold Znf ZYc; rw [if_pos ⟨by unfold ZYa; omega, by omega⟩, Zd]; simp only [Int.toNat_natCast]; have hm := Nat.mod_lt a (Nat.pos_of_ne_zero hb0); rw [ZTb (by omega), Int.toNat_natCast]; rfl
  have e1:(((Zm 4294967296 b).length:Int) == 1) = false := beq_false_of_ne (by omega); rw [e1, ZD]; obtain ⟨l, hl⟩:∃ l, (Zm 4294967296 b).length = l+1 := ⟨(Zm 4294967296 b).length - 1, by omega⟩; have hbge:4294967296 ^ l≤b := by have := Zih (B := 4294967296) (by decide) hb0; rw [hl] at this; simpa using this
  have hblt:b < 4294967296 ^ (l+1) := by have := Z6c (B := 4294967296) (by decide) b; rwa [hl] at this
  have hp:∀ k, (4294967296:Nat) ^ k = 2 ^ (32 * k) := fun k => by rw [Nat.pow_mul]
  obtain ⟨c, hc⟩ := ZHf hb0; obtain ⟨hc1, hc2⟩ := (ZRf hb0).1 hc; have hcl:32 * l≤c := by
    have h1:2 ^ (32 * l) < 2 ^ (c+1) := by rw [← hp]; omega
    have := (Nat.pow_lt_pow_iff_right (by omega:1 < 2)).1 h1; omega
  have hcu:c+1≤32 * (l+1) := by
    have h1:2 ^ c < 2 ^ (32 * (l+1)) := by rw [← hp]; omega
    have := (Nat.pow_lt_pow_iff_right (by omega:1 < 2)).1 h1; omega
  obtain ⟨up, hup⟩:∃ up, up+(c+1) = 32 * (l+1) := ⟨32 * (l+1) - (c+1), by omega⟩; have hup31:up≤31 := by omega
  have hR:0 < 2 ^ up := Nat.pow_pos (by omega); have hR31:2 ^ up≤2147483648 := Nat.le_trans (Nat.pow_le_pow_right (by omega) hup31) (by decide); have c1:chk .i64 (32 * ((l+1:Nat):Int)) = some ((32 * (l+1):Nat):Int) := by rw [show (32 * ((l+1:Nat):Int)) = ((32 * (l+1):Nat):Int) by omega, Zpb (by omega)]
  have c2:ZHg b = some (((c+1:Nat)):Int) := by unfold ZHg; rw [if_pos (by unfold ZYa; omega), hc]
  have c3:chk .i64 (((32 * (l+1):Nat):Int) - ((c+1:Nat):Int)) = some (up:Int) := by rw [show ((32 * (l+1):Nat):Int) - ((c+1:Nat):Int) = (up:Int) by omega, Zpb (by omega)]
  have c4:ZLc b (up:Int) = some (b * 2 ^ up) := by unfold ZLc; rw [if_pos ⟨by unfold ZYa; omega, by omega, by omega⟩, Int.toNat_natCast]
  have c5:ZLc a (up:Int) = some (a * 2 ^ up) := by unfold ZLc; rw [if_pos ⟨by unfold ZYa; omega, by omega, by omega⟩, Int.toNat_natCast]
  rw [hl, c1, Zd, c2, Zd, c3, Zd, c4, Zd, c5, Zd]; have hv1:2 ^ (32 * l+31)≤b * 2 ^ up := by
    have h1 := Nat.mul_le_mul_right (2 ^ up) hc1; rw [← Nat.pow_add] at h1; have h2:c+up = 32 * l+31 := by omega
    rw [h2] at h1; exact h1
  have hv2:b * 2 ^ up < 4294967296 ^ (l+1) := by
    have h1 := Nat.mul_lt_mul_of_pos_right hc2 hR; rw [← Nat.pow_add] at h1; have h2:c+1+up = 32 * (l+1) := by omega
    rw [h2, ← hp] at h1; exact h1
  have hvge:4294967296 ^ l * 2147483648≤b * 2 ^ up := by
    rw [hp, show (2147483648:Nat) = 2 ^ 31 from rfl, ← Nat.pow_add]; exact hv1
  have hdm:∀ n q:Nat, q ≠ 0→n = q * (n / q)+n % q∧n % q < q := fun n q h => ⟨(Nat.div_add_mod n q).symm, Nat.mod_lt _ (by omega)⟩; obtain ⟨v, hv⟩:∃ v, v = b * 2 ^ up := ⟨_, rfl⟩; rw [← hv] at hv1 hv2 hvge ⊢; have hBl:0 < 4294967296 ^ l := Nat.pow_pos (by omega); have hlv:(Zm 4294967296 v).length = l+1 := ZKq (by decide) (by omega) hv2; have hv0:0 < v := by omega
  obtain ⟨M, hM⟩:∃ M, M = (Zm 4294967296 a).length := ⟨_, rfl⟩; have hML:l+1≤M := by rw [hM, ← hl]; exact Zod (by decide) (by omega)
  have haM:a < 4294967296 ^ M := by rw [hM]; exact Z6c (by decide) a
  rw [hlv, ← hM]; rw [← hM] at ha; have c6:chk .i64 ((M:Int) - ((l+1:Nat):Int)) = some ((M - (l+1):Nat):Int) := by rw [show (M:Int) - ((l+1:Nat):Int) = ((M - (l+1):Nat):Int) by omega, Zpb (by omega)]
  obtain ⟨K, hK⟩:∃ K, K+(l+1) = M+2 := ⟨M - (l+1)+2, by omega⟩; have c7:chk .i64 (((M - (l+1):Nat):Int)+2) = some (K:Int) := by rw [show ((M - (l+1):Nat):Int)+2 = (K:Int) by omega, Zpb (by omega)]
  obtain ⟨u, hu⟩ := Zyd (b := 4) (l := (K:Int)) (c := (K:Int)) (by omega) (by omega) (by omega) (by omega); rw [c6, Zd, c7, Zd, hu, Zd, Int.toNat_natCast, List.length_replicate, Zea (by omega) (by omega), Zd, Z8a]; obtain ⟨ra, hra⟩:∃ ra, ra = a * 2 ^ up := ⟨_, rfl⟩; rw [← hra]; have hraM:ra < 4294967296 ^ (M+1) := by
    rw [hra, Nat.pow_succ]; exact Nat.mul_lt_mul'' haM (by omega)
  have hra0:ra < v * 4294967296 ^ K := by
    have h1:4294967296 ^ l * 2147483648 * 4294967296 ^ K≤v * 4294967296 ^ K := Nat.mul_le_mul_right _ hvge; have h2:4294967296 ^ l * 2147483648 * 4294967296 ^ K = 4294967296 ^ (M+1) * 2147483648 := by
      rw [Nat.mul_right_comm, ← Nat.pow_add, show l+K = M+1 by omega]
    omega
  refine Zqb (fun s:Nat×(List Int)×Int => ∃ k:Nat, s.2.2 = (k:Int) - 1∧k≤K∧s.2.1.length = K∧Dig 4294967296 s.2.1∧(∀ i (h:i < s.2.1.length), i < k→s.2.1[i] = 0) ∧
      s.1 < v * 4294967296 ^ k∧s.1≤ra∧ra = s.1+v * (4294967296 ^ k * val 4294967296 (s.2.1.drop k))) (fun s => (s.2.2+1).toNat)
    (fun r:Nat×List Int => r.1 < v∧r.1≤ra∧ra = r.1+v * val 4294967296 r.2) ⟨K, rfl, by omega, by simp, Dig.replicate _ (by omega), by intro i h _; simp, hra0, Nat.le_refl _, by simp [List.drop_eq_nil_of_le, val]⟩ (Z1a (by simp; omega)) ?_ ?_
  · rintro ⟨rest, out, j⟩ ⟨k, hj, hk, ho, hd, hz, hlt, hle, he⟩; simp only at hj ho hd hz hlt hle he ⊢; subst hj; by_cases hk0:k = 0
    · right; subst hk0; rw [show decide ((0:Int)≤((0:Nat):Int) - 1) = false from rfl, ZD]; refine ⟨_, rfl, by simpa using hlt, hle, by simpa using he⟩
    left; obtain ⟨j, rfl⟩:∃ j, k = j+1 := ⟨k - 1, by omega⟩; have ej:((j+1:Nat):Int) - 1 = (j:Int) := by omega
    rw [ej, decide_eq_true (show (0:Int)≤(j:Int) by omega), ZH]; have hjo:j < out.length := by omega
    have cA:ifb (decide ((j:Int) < ((Zm 4294967296 rest).length:Int))) (bnd (Zub (Zm 4294967296 rest) (j:Int) ((Zm 4294967296 rest).length:Int)) fun y654 => some y654) (some ([]:List Int)) = some (Zm 4294967296 (rest / 4294967296 ^ j)) := by
      rw [← Zql (by decide)]; by_cases h:j < (Zm 4294967296 rest).length
      · rw [decide_eq_true (by omega), ZH]; have:Zub (Zm 4294967296 rest) (j:Int) ((Zm 4294967296 rest).length:Int) = some ((Zm 4294967296 rest).drop j) := by
          unfold Zub; rw [if_pos ⟨by omega, by omega, by omega⟩]; simp
        rw [this, Zd]
      · rw [decide_eq_false (by omega), ZD, List.drop_eq_nil_of_le (by omega)]
    rw [cA, Zd, ZYn, Zd, Zd, Znm]; obtain ⟨p, hpp⟩:∃ p, p = rest / 4294967296 ^ j := ⟨_, rfl⟩; rw [← hpp]; have hBj:0 < 4294967296 ^ j := Nat.pow_pos (by omega); have hrp := Nat.div_add_mod rest (4294967296 ^ j); have hrm := Nat.mod_lt rest hBj; rw [← hpp] at hrp; have hpv:p < v * 4294967296 := by
      rw [hpp, Nat.div_lt_iff_lt_mul hBj]; rw [Nat.pow_succ] at hlt; rw [Nat.mul_assoc, Nat.mul_comm 4294967296]; exact hlt
    have cz:out[j] = 0 := hz j hjo (by omega); have hdrop:val 4294967296 (out.drop j) = 4294967296 * val 4294967296 (out.drop (j+1)) := by rw [ZQc hjo, cz]; simp
    have cend:chk .i64 ((j:Int) - 1) = some ((j:Int) - 1) := Zea (by omega) (by omega); by_cases hpl:p < v
    · rw [decide_eq_true hpl, ZH, Zd]; simp only; rw [cend, Zd]; refine ⟨_, rfl, ⟨j, rfl, by omega, ho, hd, fun i h hi => hz i h (by omega), ?_, hle, ?_⟩, by simp⟩
      · have := Nat.mul_le_mul_left (4294967296 ^ j) (show p+1≤v by omega); rw [Nat.mul_add, Nat.mul_comm (4294967296 ^ j) v] at this; simp only; omega
      · simp only; rw [hdrop, he, Nat.pow_succ]; grind
    rw [decide_eq_false hpl, ZD]; have hp1:p < 4294967296 ^ (l+1+1) := by
      rw [Nat.pow_succ]; exact Nat.lt_trans hpv (Nat.mul_lt_mul_of_pos_right hv2 (by omega))
    have hplen1 := ZUh hp1; have hplen0:l+1≤(Zm 4294967296 p).length := by rw [← hlv]; exact Zod (by decide) (by omega)
    have cl:chk .i64 (((l+1:Nat):Int) - 1) = some (l:Int) := by rw [show ((l+1:Nat):Int) - 1 = (l:Int) by omega, Zpb (by omega)]
    rw [cl, Zd, Zel (by decide) (by omega:l < (Zm 4294967296 p).length), Zd]; obtain ⟨h, hh⟩:∃ h, h = p / 4294967296 ^ l := ⟨_, rfl⟩; have hh64:h < 18446744073709551616 := by
      rw [hh]; apply Nat.div_lt_of_lt_mul; rw [Nat.pow_succ, Nat.pow_succ] at hp1; rw [show (18446744073709551616:Nat) = 4294967296 * 4294967296 from rfl, ← Nat.mul_assoc]; exact hp1
    rw [← hh]; have cH:ifb (decide (((l+1:Nat):Int) < ((Zm 4294967296 p).length:Int))) (bnd (idx (Zm 4294967296 p) ((l+1:Nat):Int)) fun y641 => bnd (ZPb .u64 (IntKind.u64.wrap y641) 32) fun y647 => some (orI .u64 (IntKind.u64.wrap ((h % 4294967296:Nat):Int)) y647)) (some (IntKind.u64.wrap ((h % 4294967296:Nat):Int))) = some (h:Int) := by
      rw [ZTb (by omega)]; have hhd:p / 4294967296 ^ (l+1) = h / 4294967296 := by rw [hh, Nat.div_div_eq_div_mul, Nat.pow_succ]
      by_cases hq:l+1 < (Zm 4294967296 p).length
      · rw [decide_eq_true (by omega), ZH, Zel (by decide) hq, Zd, hhd, ZTb (by omega)]; have hx:h / 4294967296 % 4294967296 = h / 4294967296 := Nat.mod_eq_of_lt (by omega); rw [hx]; have e1:ZPb .u64 ((h / 4294967296:Nat):Int) 32 = some ((h / 4294967296 * 2 ^ 32:Nat):Int) := by
          have := ZLe (x := h / 4294967296) (k := 32) (by omega); rw [Nat.mod_eq_of_lt (by omega)] at this; exact this
        have e2:orI .u64 ((h % 4294967296:Nat):Int) ((h / 4294967296 * 2 ^ 32:Nat):Int) = (h:Int) := by
          have hc:orI .u64 ((h % 4294967296:Nat):Int) ((h / 4294967296 * 2 ^ 32:Nat):Int) = orI .u64 ((h / 4294967296 * 2 ^ 32:Nat):Int) ((h % 4294967296:Nat):Int) := by unfold orI; rw [BitVec.or_comm]
          rw [hc, ZCf (k := 32) (by omega) (by omega)]; exact congrArg (fun q:Nat => (q:Int)) (by omega)
        rw [e1, Zd, e2]
      · rw [decide_eq_false (by omega), ZD]; have h0:p / 4294967296 ^ (l+1) = 0 := Nat.div_eq_of_lt (by
          have := Z6c (B := 4294967296) (by decide) p; have e:(Zm 4294967296 p).length = l+1 := by omega
          rwa [e] at this)
        rw [hhd] at h0; exact congrArg (fun q:Nat => some (q:Int)) (by omega)
    rw [cH, Zd, Zd, Zel (by decide) (by omega:l < (Zm 4294967296 v).length), Zd]; obtain ⟨t, ht⟩:∃ t, t = v / 4294967296 ^ l := ⟨_, rfl⟩; have ht1:2147483648≤t := by rw [ht, Nat.le_div_iff_mul_le hBl, Nat.mul_comm]; exact hvge
    have ht2:t < 4294967296 := by rw [ht]; apply Nat.div_lt_of_lt_mul; rw [Nat.pow_succ] at hv2; exact hv2
    rw [← ht, Nat.mod_eq_of_lt ht2, ZTb (by omega), ZXf (by omega) hh64, Zd]; have hq0:p / v≤h / t := by
      rw [hh, ht, Nat.div_div_eq_div_mul]; apply Nat.div_le_div_left
      · exact Nat.mul_div_le v (4294967296 ^ l)
      · exact Nat.mul_pos hBl (by rw [← ht]; omega)
    have hqB:p / v < 4294967296 := (Nat.div_lt_iff_lt_mul hv0).2 (by rw [Nat.mul_comm]; exact hpv); obtain ⟨q, hq⟩:∃ q, q = p / v := ⟨_, rfl⟩; rw [← hq] at hq0 hqB; have hpq := Nat.div_add_mod p v; have hpr := Nat.mod_lt p hv0; rw [← hq] at hpq; obtain ⟨g, hg1, hg2, cG⟩:∃ g:Nat, q≤g∧g < 4294967296∧ifb (decide ((4294967295:Int) < ((h / t:Nat):Int))) (some (4294967295:Int)) (some ((h / t:Nat):Int)) = some (g:Int) := by
      by_cases hx:4294967295 < h / t
      · exact ⟨4294967295, by omega, by omega, by rw [decide_eq_true (by omega), ZH]; rfl⟩
      · exact ⟨h / t, hq0, by omega, by rw [decide_eq_false (by omega), ZD]⟩
    have okp:∀ n, n < 4294967296 ^ (l+1+1)→ZYa n := fun n hn => by unfold ZYa; have := ZUh hn; omega
    have hvg:∀ x, x < 4294967296→v * x < 4294967296 ^ (l+1+1) := fun x hx => by rw [Nat.pow_succ]; exact Nat.mul_lt_mul'' hv2 hx
    have okg:ZYa g := by
      unfold ZYa; have := ZUh (n := g) (k := 1) (by simpa using hg2); omega
    have okv:ZYa v := by unfold ZYa; omega
    have cN:ZYc (g:Int) = some g := by unfold ZYc; rw [Int.toNat_natCast]
    have cP:Zkb v g = some (v * g) := by unfold Zkb; rw [if_pos ⟨okv, okg⟩]
    rw [cG, Zd, cN, Zd, cP, Zd, Z8a, Z8a]; refine Zhl (s := ((g:Int), v * g)) (fun s:Int×Nat => ∃ x:Nat, s.1 = (x:Int)∧s.2 = v * x∧q≤x∧x < 4294967296) (fun s => s.1.toNat) (fun r:Int×Nat => r = ((q:Int), v * q)) ⟨g, rfl, rfl, hg1, hg2⟩ (Z1a (by simp; omega)) ?_ ?_
    · rintro ⟨x, y⟩ ⟨x, rfl, rfl, hx1, hx2⟩; simp only; rw [Zd, Zd, Znn]; by_cases hxp:p < v * x
      · left; have hx0:q < x := by
          rcases Nat.lt_or_ge q x with h' | h'
          · exact h'
          · have := Nat.mul_le_mul_left v h'; omega
        have cD:ZJc (v * x) v = some (v * (x - 1)) := by
          unfold ZJc; have hle:v * 1≤v * x := Nat.mul_le_mul_left v (by omega); rw [if_pos ⟨okp _ (hvg x hx2), by omega⟩, Nat.mul_sub, Nat.mul_one]
        have cW:IntKind.u64.wrap ((x:Int) - 1) = ((x - 1:Nat):Int) := by rw [show (x:Int) - 1 = ((x - 1:Nat):Int) by omega, ZTb (by omega)]
        rw [decide_eq_true hxp, ZH, cD, Zd, cW]; exact ⟨_, rfl, ⟨x - 1, rfl, rfl, by omega, by omega⟩, by simp; omega⟩
      · right; have hxq:x = q := by
          have h1:x≤p / v := (Nat.le_div_iff_mul_le hv0).2 (by rw [Nat.mul_comm]; omega); omega
        subst hxq; rw [decide_eq_false hxp, ZD]; exact ⟨_, rfl, rfl⟩
    · rintro _ rfl; rw [Zd]; simp only; have hjr:j < (Zm 4294967296 rest).length := by
        rcases Nat.lt_or_ge j (Zm 4294967296 rest).length with h' | h'
        · exact h'
        · have h1:(Zm 4294967296 rest).drop j = [] := List.drop_eq_nil_of_le h'; rw [Zql (by decide), ← hpp] at h1; have := (Zpg (B := 4294967296) (by decide)).1 h1; omega
      have hrl:(Zm 4294967296 rest).length≤M+1 := by
        have := Zod (B := 4294967296) (by decide) hle; have := ZUh hraM; omega
      have cC:Zub (Zm 4294967296 rest) 0 (j:Int) = some ((Zm 4294967296 rest).take j) := by
        unfold Zub; rw [if_pos ⟨by omega, by omega, by omega⟩]; simp
      obtain ⟨r, hr⟩:∃ r, r = p % v := ⟨_, rfl⟩; rw [← hr] at hpq hpr; have cD:ZJc p (v * q) = some r := by
        unfold ZJc; rw [if_pos ⟨okp p hp1, by omega⟩]; exact congrArg some (by omega)
      have htl:((Zm 4294967296 rest).take j).length = j := by rw [List.length_take]; omega
      have hrlen:(Zm 4294967296 r).length≤l+1 := by rw [← hlv]; exact Zod (by decide) (by omega)
      rw [Zla hjo, Zd, cC, Zd, ZJe (by simp only [List.nil_append, htl]; omega), Zd, Zd, cD, Zd, ZJe (by simp only [List.nil_append, List.length_append, htl]; omega), Zd]; unfold Zac; rw [Zd, Zd, List.nil_append, Ztd, htl, Zeb (by decide), Zgr (by decide) _ (by omega)]; have cW:IntKind.u32.wrap (q:Int) = (q:Int) := by rw [wrap_u32]; omega
      rw [cW, Int.toNat_natCast]; simp only; rw [cend, Zd]; have hnew:rest % 4294967296 ^ j+4294967296 ^ j * r+v * (4294967296 ^ j * q) = rest := by
        rw [← hrp, ← hpq]; grind
      refine ⟨_, rfl, ⟨j, rfl, by omega, by simp [ho], hd.set _ (by omega), fun i hi hij => ?_, ?_, ?_, ?_⟩, by simp⟩
      · simp only at hi ⊢; rw [List.getElem_set_ne (by omega)]; exact hz i (by simpa using hi) (by omega)
      · simp only; have := Nat.mul_le_mul_left (4294967296 ^ j) (show r+1≤v by omega); rw [Nat.mul_add, Nat.mul_comm (4294967296 ^ j) v] at this; omega
      · simp only; omega
      · simp only; have e6:(out.set j (q:Int)).drop j = (q:Int) :: out.drop (j+1) := by
          rw [List.drop_eq_getElem_cons (by simpa using hjo), List.getElem_set_self, List.drop_set_of_lt (by omega)]
        rw [e6]; simp only [val, Int.toNat_natCast]; rw [he]
        conv => lhs; rw [← hnew]
        rw [Nat.pow_succ]; grind
  · rintro ⟨rest, out⟩ ⟨h1, h2, h3⟩; simp only at h1 h2 h3 ⊢; rw [Zd]; simp only; unfold Zac; have hrl:(Zm 4294967296 rest).length≤M+1 := by
      have := Zod (B := 4294967296) (by decide) h2; have := ZUh hraM; omega
    have cL:Zlg rest (up:Int) = some (rest / 2 ^ up) := by unfold Zlg; rw [if_pos ⟨by unfold ZYa; omega, by omega⟩, Int.toNat_natCast]
    rw [Zd, cL, Zd]; rw [hv] at h1 h3; rw [hra] at h3; obtain ⟨e1, e2⟩ := quo_end (Nat.pos_of_ne_zero hb0) hR h1 h3; rw [e1, e2]
theorem Zip {n m:Nat} {z:Nat×Nat} (h:Zrd n m = some z):Zyh n m = some z := by
  unfold Zrd at h; split at h
  · rename_i hh; rw [ZTp hh.1 hh.2.1 hh.2.2, h]
  · cases h
noncomputable def ZAh (a:Nat) (b:Nat):Option (Nat) :=
 bnd (bnd (Zca (fun s:Nat×Nat=>match s with
 | (d,c) =>
 (ifb (decide ((0:Int) < (((Zm 4294967296 c)).length:Int)))
 (bnd (Zrd d c) fun e =>
 some (.inl ((c,e.2))))
 (some (.inr d)))) Zwa ((a,b)))
 (fun (f:Nat) =>
 (some f)))
 (fun (g:Nat) =>
 (some g))
noncomputable def Z1j (s:Bool) (n:Nat) (d:Nat):Option (Rat) :=
 ifb (((((Zm 4294967296 n)).length:Int)) == ((0:Int)))
 (bnd (ZDc ([(1:Int)])) fun b =>
 bnd (ZZe false ((0:Nat)) b) fun c =>
 some c)
 (bnd (rgcF n d) fun a =>
 bnd (Zrd n a) fun e =>
 bnd (Zrd d a) fun f =>
 bnd (ZZe s e.1 f.1) fun g =>
 some g)
theorem Zyk {n m:Nat} (h:n≤m) (hm:Zjb m):Zjb n := by
  have := Zod (B := 4294967296) (by decide) h; unfold Zjb at *; omega
theorem ZCl {n:Nat} (h:Zjb n):bl n≤2199023255552 := by
  unfold Zjb at h; have h1 := Z6c (B := 4294967296) (by decide) n; have h2:4294967296 ^ (Zm 4294967296 n).length = 2 ^ (32 * (Zm 4294967296 n).length) := by rw [Nat.pow_mul]
  rw [h2] at h1; have := ZGb h1; omega
theorem sm32_of {n k:Nat} (h:bl n≤32 * k) (hk:k≤68719476736):Zjb n := by
  unfold Zjb; refine Nat.le_trans (ZIf (B := 4294967296) (k := k) (by decide) ?_) hk; have h1 := Zkf n; have h2:4294967296 ^ k = 2 ^ (32 * k) := by rw [Nat.pow_mul]
  rw [h2]; exact Nat.lt_of_lt_of_le h1 (Nat.pow_le_pow_right (by omega) h)
theorem Zgo {n:Nat} (h:bl n≤2199023255552):Zjb n := sm32_of (k := (bl n+31) / 32) (by omega) (by omega)
theorem rgcd_eq {n m:Nat} (hn:Zjb n) (hm:Zjb m):ZAh n m = some (Nat.gcd n m) := by
  unfold ZAh; rw [Z8a]; refine Zqb (fun s:Nat×Nat => Zjb s.1∧Zjb s.2∧Nat.gcd s.1 s.2 = Nat.gcd n m) (fun s => 2 * (bl s.1+bl s.2)+if s.1 < s.2 then 1 else 0) (fun r:Nat => r = Nat.gcd n m) ⟨hn, hm, rfl⟩
    (Z1a (by have := ZCl hn; have := ZCl hm; simp only; split <;> omega)) ?_ ?_
  · rintro ⟨a, b⟩ ⟨ha, hb, hg⟩; simp only at ha hb hg ⊢; rw [Zkl]; by_cases h0:b = 0
    · right; subst h0; exact ⟨_, rfl, by rw [← hg, Nat.gcd_zero_right]⟩
    · left; have h1:Zrd a b = some (a / b, a % b) := by unfold Zrd; rw [if_pos ⟨ha, hb, h0⟩]
      have hlt:a % b < b := Nat.mod_lt _ (by omega); rw [decide_eq_true h0, ZH, h1, Zd]; refine ⟨_, rfl, ⟨hb, Zyk (Nat.le_of_lt hlt) hb, ?_⟩, ?_⟩
      · rw [← hg]; simp only; rw [Nat.gcd_comm b, ← Nat.gcd_rec, Nat.gcd_comm]
      · simp only; rw [if_neg (by omega)]; by_cases hab:a < b
        · rw [if_pos hab, Nat.mod_eq_of_lt hab]; omega
        · have := ZYm (a := a) (b := b) (by omega) h0; rw [if_neg hab]; omega
  · rintro r rfl; rw [Zd]
theorem rgcF_eq {n m z:Nat} (h:rgcF n m = some z):ZAh n m = some z := by
  unfold rgcF at h; split at h
  · rename_i hh; rw [rgcd_eq hh.1 hh.2, h]
  · cases h
theorem ZGr {s:Bool} {n d:Nat} (hn:n ≠ 0) (hd:d ≠ 0):decide ((mkRat (sgn s n) d).num < 0) = s∧(mkRat (sgn s n) d).num.natAbs = n / Nat.gcd n d∧(mkRat (sgn s n) d).den = d / Nat.gcd n d := by
  have e0:(sgn s n).natAbs = n := by unfold sgn; split <;> omega
  have hg:0 < Nat.gcd n d := Nat.gcd_pos_of_pos_left _ (Nat.pos_of_ne_zero hn); have hnum:(mkRat (sgn s n) d).num = sgn s n / (Nat.gcd n d:Int) := by rw [Rat.num_mkRat, Nat.gcd_comm, e0]; simp [hd, Nat.gcd_comm]
  have hden:(mkRat (sgn s n) d).den = d / Nat.gcd n d := by rw [Rat.den_mkRat, e0]; simp [hd, Nat.gcd_comm]
  obtain ⟨k, hk⟩ := Nat.gcd_dvd_left n d; have hk0:k ≠ 0 := by rintro rfl; simp at hk; exact hn hk
  have hq:sgn s n / (Nat.gcd n d:Int) = sgn s k := by
    have:sgn s n = sgn s k * (Nat.gcd n d:Int) := by
      unfold sgn
      conv => lhs; rw [hk]
      split <;> grind
    rw [this, Int.mul_ediv_cancel _ (by omega)]
  have hnk:n / Nat.gcd n d = k := Nat.div_eq_of_eq_mul_right hg hk; rw [hnum, hq, hnk]; refine ⟨?_, by unfold sgn; split <;> omega, hden⟩
  cases s
  · apply decide_eq_false; simp only [sgn]; simp
  · apply decide_eq_true; simp only [sgn]; simp; omega
theorem Zmq {s:Bool} {n d:Nat} (hn:n ≠ 0) (hd:d ≠ 0):ZZe s (n / Nat.gcd n d) (d / Nat.gcd n d) = some (mkRat (sgn s n) d) := by
  obtain ⟨h1, h2, h3⟩ := ZGr (s := s) hn hd; have := ZZl (mkRat (sgn s n) d); rw [h1, h2, h3] at this; exact this
theorem ZYo:ZZe false 0 1 = some 0 := ZZl 0
theorem Zcq {s:Bool} {n d:Nat} {z:Rat} (h:Zyb s n d = some z):Z1j s n d = some z := by
  unfold Zyb at h; split at h
  · rename_i hh; obtain ⟨h1, h2, h3⟩ := hh
    cases h
    unfold Z1j; rw [ZLi]; by_cases h0:n = 0
    · subst h0; rw [decide_eq_true rfl, ZH, Zth, Zd, ZYo, Zd]; have e:sgn s 0 = 0 := by cases s <;> rfl
      rw [e, Rat.zero_mkRat]
    · have e1:rgcF n d = some (Nat.gcd n d) := by unfold rgcF; rw [if_pos ⟨h1, h2⟩]
      have hg:Nat.gcd n d ≠ 0 := by have := Nat.gcd_pos_of_pos_left d (Nat.pos_of_ne_zero h0); omega
      have okg:Zjb (Nat.gcd n d) := Zyk (Nat.gcd_le_left _ (Nat.pos_of_ne_zero h0)) h1; have e2:Zrd n (Nat.gcd n d) = some (n / Nat.gcd n d, n % Nat.gcd n d) := by unfold Zrd; rw [if_pos ⟨h1, okg, hg⟩]
      have e3:Zrd d (Nat.gcd n d) = some (d / Nat.gcd n d, d % Nat.gcd n d) := by unfold Zrd; rw [if_pos ⟨h2, okg, hg⟩]
      rw [decide_eq_false h0, ZD, e1, Zd, e2, Zd, e3, Zd, Zmq h0 h3, Zd]
  · cases h
noncomputable def ZGh (n:Int):Option (Rat) :=
 ifb (decide (n < (0:Int)))
 (bnd (ZYc (IntKind.u64.wrap (-(IntKind.u64.wrap n)))) fun a =>
 bnd (ZDc ([(1:Int)])) fun b =>
 bnd (Zyb true a b) fun c =>
 some c)
 (bnd (ZYc (IntKind.u64.wrap n)) fun d =>
 bnd (ZDc ([(1:Int)])) fun e =>
 bnd (Zyb false d e) fun f =>
 some f)
noncomputable def Zbj (n:Int) (d:Int):Option (Rat×Int) :=
 ifb (d == ((0:Int)))
 (bnd (Z9b ((0:Int))) fun c =>
 some ((c,(3:Int))))
 (bnd (Z9b n) fun a =>
 bnd (Z9b d) fun b =>
 bnd (Zyb ((decide (a.num < 0)) != (decide (b.num < 0))) a.num.natAbs b.num.natAbs) fun e =>
 some ((e,(0:Int))))
noncomputable def Zxi (r:(Int×Int)):Option (Rat) :=
 ifb (r.2 == ((0:Int)))
 (bnd (Z9b r.1) fun a =>
 some a)
 (bnd (Z8h r.1 r.2) fun b =>
 some b.1)
noncomputable def Z9i (x:Rat):Option (Int) :=
 bnd (Zpe x) fun a =>
 ifb (a)
 (some ((0:Int)))
 (ifb (decide (x.num < 0))
 (some ((-1:Int)))
 (some ((1:Int))))
theorem Z2f {n:Nat} (h:n≤18446744073709551616):Zjb n := Zgo (Nat.le_trans (ZGb (show n < 2 ^ 65 by omega)) (by decide))
theorem mkRat_one (n:Int):mkRat n 1 = (n:Rat) := by
  have := Rat.mkRat_self (n:Rat)
  simpa using this
theorem Zis {n:Int} (h1:-9223372036854775808≤n) (h2:n≤9223372036854775807):ZGh n = some (n:Rat) := by
  unfold ZGh; rw [Zth]; unfold ZYc Zyb; by_cases h:n < 0
  · obtain ⟨k, rfl⟩:∃ k:Nat, n = -(k:Int) := ⟨n.natAbs, by omega⟩; have e1:IntKind.u64.wrap (-(IntKind.u64.wrap (-(k:Int)))) = (k:Int) := by rw [wrap_u64, wrap_u64]; omega
    rw [decide_eq_true h, ZH, e1, Zd, Zd, Int.toNat_natCast, if_pos ⟨Z2f (by omega), Z2f (by omega), by omega⟩, Zd, mkRat_one]; rfl
  · obtain ⟨k, rfl⟩ := Int.eq_ofNat_of_zero_le (show 0≤n by omega); rw [decide_eq_false h, ZD, ZTb (by omega), Zd, Zd, Int.toNat_natCast, if_pos ⟨Z2f (by omega), Z2f (by omega), by omega⟩, Zd, mkRat_one]; rfl
theorem Z6o {n:Int} {z:Rat} (hn:inR .i64 n) (h:Z9b n = some z):ZGh n = some z := by
  have := ZDb.1 hn; unfold Z9b at h; rw [Zis (by omega) (by omega), h]
theorem Ztp (n m:Int):sgn (decide (n < 0) != decide (m < 0)) n.natAbs = if m < 0 then -n else n := by
  have := Zvl n m; unfold Z0b at this; exact Option.some.inj this
theorem Zdr {n d:Int} {z:Rat×Int} (hn:inR .i64 n) (hd:inR .i64 d) (h:Z8h n d = some z):Zbj n d = some z := by
  have hn := ZDb.1 hn; have hd := ZDb.1 hd; unfold Z8h at h
  cases h
  unfold Zbj Z9b; by_cases h0:d = 0
  · subst h0; rfl
  · have e0:(d == 0) = false := by simp [h0]
    rw [e0, ZD, if_neg h0, Zd, Zd]; unfold Zyb; rw [Rat.num_intCast, Rat.num_intCast, if_pos ⟨Z2f (by omega), Z2f (by omega), by omega⟩, Zd, Ztp, ← Z0j]
theorem rofF_eq {r:Int×Int} {z:Rat} (h:rofF r = some z):Zxi r = some z := by
  unfold rofF at h
  cases h
  unfold Zxi Zxd Z9b Z8h; by_cases h0:r.2 = 0
  · rw [if_pos h0, h0]; rfl
  · have:(r.2 == 0) = false := by simp [h0]
    rw [this, ZD, Zd, if_neg h0, if_neg h0]
theorem ZUq {x:Rat} {z:Int} (h:Zdf x = some z):Z9i x = some z := by
  unfold Zdf at h
  cases h
  unfold Z9i Zpe; rw [Zd]; by_cases h0:x = 0
  · subst h0; rfl
  · have := Z4j h0; rw [decide_eq_false h0, ZD]; by_cases h1:x.num < 0
    · rw [decide_eq_true h1, ZH, Int.sign_eq_neg_one_of_neg h1]
    · rw [decide_eq_false h1, ZD, Int.sign_eq_one_of_pos (by omega)]
end Go.Eng
namespace Go.Eng
open Go.RowKit
def Zjo (P:Program) (f:FuncId) (T e:TypeId):Prop := ∀ (B b:Nat) (bs:List Value) (s:ByteArray) (w:World), Lib.IsBuilder T e B b bs w→bs.length+s.size≤140737488355328→B≤w.heap.size →
  Calls P f #[.pointer (some ⟨b, 0, none⟩), .string s] w fun x w' => x = .returned (.tuple #[.int .i64 s.size, .nilIface])∧(Lib.BuilderAt T e B b (.pointer (some ⟨b, 0, none⟩)) (bs ++ Lib.strCells s) w'∧Below B w w')
def Tells (P:Program) (f:FuncId) (T e:TypeId):Prop := ∀ (B b:Nat) (l:List UInt8) (w:World), Lib.IsBuilder T e B b (Lib.byteCells l) w→B≤w.heap.size →
  Calls P f #[.pointer (some ⟨b, 0, none⟩)] w fun x w' => x = .returned (.string ⟨l.toArray⟩)∧Below B w w'
structure Bld (T e b:Nat) (w0:Base) (v:Zf) (m:List UInt8) (w:World):Prop where
  is:Lib.IsBuilder T e b b (Lib.byteCells m) w
  old:∀ k o, v k = some o→k < b
  base:w0.wd.heap.size≤b
  lt:b≤w.heap.size
variable {P:Program} {K:Nat} {w0:Base} {v0:Zf} {σ:List (Nat×Value)} {ℓ:List Loc} {v:Zf} {a:Act} {w:World}
variable {ops:Array Oper} {Q:Exit→Act→World→Prop} {rest:List Oper}
theorem St.below {w':World} {b:Nat} (h:St K w0 v0 σ [] v a w) (x:Below b w w') (hv:∀ k o, v k = some o→k < b) (hb:w0.wd.heap.size≤b):St K w0 v0 σ [] v a w' :=
  ⟨h.size, h.dfr, h.fr, ⟨x.os.trans h.ext.os, x.tape.trans h.ext.tape, x.output.trans h.ext.output, Nat.le_trans h.ext.size x.size, fun k hk hn => (x.block k (by omega)).trans (h.ext.block k hk hn)⟩,
    ⟨h.vst.le, fun k o e => (x.block k (hv k o e)).trans (h.vst.vin k o e), h.vst.old⟩, fun e he => by simp at he, List.nodup_nil⟩
theorem op_newB {o:Oper} {d T:Nat} (e:Nat) (hS:St K w0 v0 σ ℓ v a w) (hw:Region.wanted o (yielded ops a.tmps) = true) (hd:o.dst = some d) (hK:d < K)
    (hrun:(execOp a.eval o).run P w = .ok (.value (.pointer (some ⟨w.heap.size, 0, none⟩))) (w.alloc (.cells #[.pointer none, .slice none 0 0] T)))
    (h:∀ b a w, St K w0 v0 ((d, .pointer (some ⟨b, 0, none⟩)) :: σ) [] v a w→Bld T e b w0 v [] w→wpList P ops Q rest a w):wpList P ops Q (o :: rest) a w :=
  ZYd hw (Zte hrun (by
    rw [hd]
    have h1:St K w0 v0 σ [] v a w := hS.drop (List.nil_sublist _)
    have h2:Ext w (w.alloc (.cells #[.pointer none, .slice none 0 0] T)) := Ext.alloc w _
    exact h w.heap.size _ _ ((h1.step h2 (VStep.ext h1.vin h2)).put _ hK) ⟨Lib.fresh_isBuilder T e w, fun k o hk => h1.vin.lt hk, h1.ext.size, h2.size⟩))
theorem ZVq (l l':List UInt8):Lib.byteCells l ++ Lib.strCells (Zda l') = Lib.byteCells (l ++ l') := by simp [Lib.byteCells, Lib.strCells, Zda]
theorem ZPp {o:Oper} {d f T e b:Nat} {m s:List UInt8} (hW:Zjo P f T e) (hB:Bld T e b w0 v m w) (hl:(m ++ s).length≤140737488355328) (hS:St K w0 v0 σ [] v a w) (hw:Region.wanted o (yielded ops a.tmps) = true) (hd:o.dst = some d) (hK:d < K)
    (hrun:(execOp a.eval o).run P w = .ok (.enter f #[.pointer (some ⟨b, 0, none⟩), .string (Zda s)]) w)
    (h:∀ a w, St K w0 v0 ((d, .tuple #[.int .i64 s.length, .nilIface]) :: σ) [] v a w→Bld T e b w0 v (m ++ s) w→wpList P ops Q rest a w):wpList P ops Q (o :: rest) a w := by
  have hc := hW b b (Lib.byteCells m) (Zda s) w hB.is (by rw [Lib.byteCells_length, ZId, ← List.length_append]; exact hl) hB.lt; refine ZYd hw (Z9f hrun (Calls.mono hc fun x w' ⟨e1, e2, e3⟩ => ⟨_, e1, ?_⟩)); rw [hd]; rw [ZId] at *; rw [ZVq] at e2; exact h _ _ ((hS.below e3 hB.old hB.base).put _ hK) ⟨.inr e2, hB.old, hB.base, Nat.le_trans hB.lt e3.size⟩
theorem op_tell {o:Oper} {d f T e b:Nat} {m:List UInt8} (hT:Tells P f T e) (hB:Bld T e b w0 v m w) (hS:St K w0 v0 σ [] v a w) (hw:Region.wanted o (yielded ops a.tmps) = true) (hd:o.dst = some d) (hK:d < K)
    (hrun:(execOp a.eval o).run P w = .ok (.enter f #[.pointer (some ⟨b, 0, none⟩)]) w)
    (h:∀ a w, St K w0 v0 ((d, .string (Zda m)) :: σ) [] v a w→wpList P ops Q rest a w):wpList P ops Q (o :: rest) a w := by
  have hc := hT b b m w hB.is hB.lt; refine ZYd hw (Z9f hrun (Calls.mono hc fun x w' ⟨e1, e3⟩ => ⟨_, e1, ?_⟩)); rw [hd]; exact h _ _ ((hS.below e3 hB.old hB.base).put _ hK)
def Zii (l:List UInt8):Option Unit := if l.length≤140737488355328 then some () else none
theorem Zzp {l:List UInt8} {u:Unit} (h:Zii l = some u):l.length≤140737488355328 := by
  unfold Zii at h; split at h
  · assumption
  · cases h
theorem Zbq {q:Option Nat} {b o:Nat} (h:mkA q = some ⟨b, o, none⟩):q = some b∧o = 0 := by
  cases q with
  | none => cases h
  | some c => cases h; exact ⟨rfl, rfl⟩
noncomputable def Zdh (a:Nat):Option ((List UInt8)) :=
 bnd (bnd (Zca (fun s:Nat×(List UInt8)=>match s with
 | (e,f) =>
 (ifb (decide ((0:Int) < (((Zm 4294967296 e)).length:Int)))
 (bnd (Znf e ((1000000000:Int))) fun c =>
 bnd (bnd (Zca (fun s:(List UInt8)×Int×Int=>match s with
 | (d,b,g) =>
 (bnd (ifb (decide (g < (9:Int)))
 (ifb (decide ((0:Int) < (((Zm 4294967296 c.1)).length:Int)))
 (some true)
 (some (decide ((0:Int) < b))))
 (some false))
 (fun (j:Bool) =>
 (ifb (j)
 (bnd (rem .u32 b ((10:Int))) fun k =>
 bnd (rem .u32 b ((10:Int))) fun l =>
 bnd (Zub (([48,49,50,51,52,53,54,55,56,57]:List UInt8)) k (IntKind.u32.wrap (l+((1:Int))))) fun h =>
 bnd (Znc (h ++ d)) fun r =>
 bnd (quo .u32 b ((10:Int))) fun m =>
 bnd (chk .i64 (g+((1:Int)))) fun n =>
 some (.inl (((h ++ d),m,n))))
 (some (.inr d)))))) Zwa ((f,c.2,(0:Int))))
 (fun (o:(List UInt8)) =>
 (some o)))
 (fun (p:(List UInt8)) =>
 (some (.inl ((c.1,p))))))
 (some (.inr f)))) Zwa ((a,([]:List UInt8))))
 (fun (q:(List UInt8)) =>
 (some q)))
 (fun (i:(List UInt8)) =>
 (ifb (i == (([]:List UInt8)))
 (some (([48]:List UInt8)))
 (some i)))
noncomputable def Z1g (a:Nat):Option ((List UInt8)) :=
 bnd (bnd (Zca (fun s:Nat×(List (List UInt8))=>match s with
 | (h,c) =>
 (ifb (decide ((0:Int) < (((Zm 18446744073709551616 h)).length:Int)))
 (bnd (Zse h ((10000000000000000000:Int))) fun d =>
 bnd (Zfg d.2) fun b =>
 bnd (ifb (decide ((0:Int) < (((Zm 18446744073709551616 d.1)).length:Int)))
 (bnd (chk .i64 (((19:Int)) - ((b.length:Int)))) fun m =>
 bnd (Zsg (([48]:List UInt8)) m) fun i =>
 bnd (Znc (i ++ b)) fun r =>
 some ((i ++ b)))
 (some b))
 (fun (j:(List UInt8)) =>
 (bnd (Zcb 16 (c ++ [j])) fun t =>
 some (.inl ((d.1,(c ++ [j])))))))
 (some (.inr c)))) Zwa ((a,([]:(List (List UInt8))))))
 (fun (n:(List (List UInt8))) =>
 (some n)))
 (fun (e:(List (List UInt8))) =>
 (ifb (((e.length:Int)) == ((0:Int)))
 (some (([48]:List UInt8)))
 (bnd (chk .i64 (((e.length:Int)) - ((1:Int)))) fun o =>
 bnd (bnd (Zca (fun s:(List UInt8)×Int=>match s with
 | (f,g) =>
 (ifb (decide ((0:Int)≤g))
 (bnd (idx e g) fun k =>
 bnd (Zii (f ++ k)) fun u =>
 bnd (chk .i64 (g - ((1:Int)))) fun p =>
 some (.inl (((f ++ k),p))))
 (some (.inr f)))) Zwa ((([]:List UInt8),o)))
 (fun (q:(List UInt8)) =>
 (some q)))
 (fun (l:(List UInt8)) =>
 (bnd (Znc l) fun v =>
 some l)))))
noncomputable def ZXj (x:Rat):Option ((List UInt8)) :=
 bnd (Z0f ((x.num).natAbs)) fun a =>
 bnd (ifb (decide (x.num < 0))
 (bnd (Znc ((([45]:List UInt8)) ++ a)) fun e =>
 some (((([45]:List UInt8)) ++ a)))
 (some a))
 (fun (b:(List UInt8)) =>
 (bnd (ifb (decide ((0:Int) < (((Zm 18446744073709551616 ((Zxb x.den)))).length:Int)))
 (bnd (Z0f ((Zxb x.den))) fun c =>
 bnd (Znc ((([47]:List UInt8)) ++ c)) fun f =>
 bnd (Znc (b ++ (((([47]:List UInt8)) ++ c)))) fun g =>
 some ((b ++ (((([47]:List UInt8)) ++ c)))))
 (some b))
 (fun (d:(List UInt8)) =>
 (some d))))
theorem ZBj (n:Nat):(ZSa n).length≤bl n := by
  induction n using Nat.strongRecOn with
  | ind n ih =>
    by_cases h:n = 0
    · subst h; rw [Zgd]; simp
    · rw [Zjf h, List.length_append]; have h1 := ih (n / 10) (by omega); have h2:bl (n / 10)+1≤bl n := by
        rw [ZQi h]; exact Nat.add_le_add_right (ZCe (by omega)) 1
      simp only [List.length_cons, List.length_nil]; omega
theorem ZQo {n k:Nat} (h:n < 10 ^ k):(ZSa n).length≤k := by
  induction k generalizing n with
  | zero => simp at h; subst h; rw [Zgd]; simp
  | succ k ih =>
    by_cases h0:n = 0
    · subst h0; rw [Zgd]; simp
    · rw [Zjf h0, List.length_append]; have := ih (n := n / 10) (by rw [Nat.pow_succ] at h; omega); simp only [List.length_cons, List.length_nil]; omega
theorem Zbr {q:Nat} (hq:q ≠ 0):∀ (k r:Nat), r < 10 ^ k→ZSa (q * 10 ^ k+r) = ZSa q ++ (List.replicate (k - (ZSa r).length) 48 ++ ZSa r) := by
  intro k
  induction k with
  | zero => intro r h; simp at h; subst h; rw [Zgd]; simp
  | succ k ih =>
    intro r h; rw [Nat.pow_succ] at h; have hn:q * 10 ^ (k+1)+r ≠ 0 := by
      have:0 < q * 10 ^ (k+1) := Nat.mul_pos (by omega) (Nat.pow_pos (by omega)); omega
    have e1:(q * 10 ^ (k+1)+r) / 10 = q * 10 ^ k+r / 10 := by rw [Nat.pow_succ, ← Nat.mul_assoc]; generalize q * 10 ^ k = p; omega
    have e2:(q * 10 ^ (k+1)+r) % 10 = r % 10 := by rw [Nat.pow_succ, ← Nat.mul_assoc]; generalize q * 10 ^ k = p; omega
    rw [Zjf hn, e1, e2, ih (r / 10) (by omega)]; by_cases h0:r = 0
    · subst h0; simp only [Nat.zero_div, Zgd, List.length_nil, Nat.sub_zero, List.append_nil, List.append_assoc]; congr 1; rw [List.replicate_succ']; rfl
    · rw [Zjf h0, List.length_append]; simp only [List.length_cons, List.length_nil, List.append_assoc]; rw [show k+1 - ((ZSa (r / 10)).length+(0+1)) = k - (ZSa (r / 10)).length by omega]
theorem ZVe {l:List UInt8} (h:l.length≤140737488355328):Znc l = some () := by unfold Znc; rw [if_pos (by unfold maxLen; omega)]
theorem Z4o {d:Nat} (h:d < 10):Zub ([48, 49, 50, 51, 52, 53, 54, 55, 56, 57]:List UInt8) (d:Int) ((d+1:Nat):Int) = some [UInt8.ofNat (48+d)] := by
  have:d = 0 ∨ d = 1 ∨ d = 2 ∨ d = 3 ∨ d = 4 ∨ d = 5 ∨ d = 6 ∨ d = 7 ∨ d = 8 ∨ d = 9 := by omega
  rcases this with rfl | rfl | rfl | rfl | rfl | rfl | rfl | rfl | rfl | rfl <;> rfl
theorem quo_u32 {p q:Nat} (hq:0 < q) (hp:p < 4294967296):quo .u32 (p:Int) (q:Int) = some ((p / q:Nat):Int) := by
  unfold quo; rw [if_neg (by omega)]; have e:(p:Int).tdiv (q:Int) = ((p / q:Nat):Int) := by simp [Int.tdiv_eq_ediv_of_nonneg]
  have h:p / q≤p := Nat.div_le_self _ _; generalize p / q = r at *; have h5:inR .u32 (r:Int) := (show (0:Int)≤(r:Int)∧(r:Int)≤4294967295 from ⟨by omega, by omega⟩); rw [e, Zol h5]
theorem beq_nil {l:List UInt8}:(l == ([]:List UInt8)) = decide (l = []) := by
  cases l <;> rfl
theorem ZMn {n:Nat}:ZSa n = [] ↔ n = 0 := by
  constructor
  · intro h; rcases Nat.eq_zero_or_pos n with h0 | h0
    · exact h0
    · rw [Zjf (by omega)] at h; simp at h
  · rintro rfl; exact Zgd
theorem Zgs {a:Nat} (ha:Zjb a):Zdh a = some (ZJb a) := by
  unfold Zdh; rw [Z8a]; have hbl := ZCl ha; refine Zqb (fun s:Nat×List UInt8 => Zjb s.1∧ZSa s.1 ++ s.2 = ZSa a) (fun s => bl s.1) (fun r:List UInt8 => r = ZSa a) ⟨ha, by simp⟩ (Z1a (by simp only; omega)) ?_ ?_
  · rintro ⟨x, s⟩ ⟨hx, he⟩; simp only at hx he ⊢; rw [Zkl]; by_cases h0:x = 0
    · right; subst h0; rw [show decide ((0:Nat) ≠ 0) = false from rfl, ZD]; exact ⟨_, rfl, by rw [← he, Zgd]; rfl⟩
    · left; have e1:Znf x (1000000000:Int) = some (x / 1000000000, ((x % 1000000000:Nat):Int)) := by
        unfold Znf; rw [if_pos ⟨by unfold ZYa; unfold Zjb at hx; omega, by omega⟩]; rfl
      rw [decide_eq_true h0, ZH, e1, Zd, Z8a]; have hslen:s.length≤4398046511104 := by
        have := ZBj a; rw [← he, List.length_append] at this; omega
      refine Zhl (s := (s, ((x % 1000000000:Nat):Int), (0:Int))) (fun t:List UInt8×Int×Int => ∃ r k m:Nat, t.2.1 = (r:Int)∧t.2.2 = (k:Int)∧k+m = 9∧r < 10 ^ m∧r < 1000000000∧ZSa (x / 1000000000 * 10 ^ m+r) ++ t.1 = ZSa a) (fun t => 9 - t.2.2.toNat)
        (fun t:List UInt8 => ZSa (x / 1000000000) ++ t = ZSa a) ⟨x % 1000000000, 0, 9, rfl, rfl, rfl, Nat.mod_lt _ (by decide), Nat.mod_lt _ (by decide), by
          rw [show x / 1000000000 * 10 ^ 9+x % 1000000000 = x by omega]; exact he⟩ (Z1a (by simp)) ?_ ?_
      · rintro ⟨t, r, k⟩ ⟨r, k, m, rfl, rfl, hk, hr, hr2, hd⟩; simp only at hd ⊢; rw [Zkl]; have htl:t.length≤4398046511104 := by
          have := ZBj a; rw [← hd, List.length_append] at this; omega
        have cond:ifb (decide ((k:Int) < 9)) (ifb (decide (x / 1000000000 ≠ 0)) (some true) (some (decide ((0:Int) < (r:Int))))) (some false) = some (decide (k < 9∧x / 1000000000 * 10 ^ m+r ≠ 0)) := by
          by_cases h1:k < 9
          · rw [decide_eq_true (by omega), ZH]; by_cases h2:x / 1000000000 = 0
            · rw [decide_eq_false (by simp [h2]), ZD, h2]; exact congrArg some (decide_eq_decide.2 (by omega))
            · rw [decide_eq_true h2, ZH]; have:0 < x / 1000000000 * 10 ^ m := Nat.mul_pos (by omega) (Nat.pow_pos (by omega)); rw [decide_eq_true ⟨h1, by omega⟩]
          · rw [decide_eq_false (by omega), ZD, decide_eq_false (by omega)]
        rw [cond, Zd]; by_cases hc:k < 9∧x / 1000000000 * 10 ^ m+r ≠ 0
        · left; obtain ⟨h1, h2⟩ := hc; obtain ⟨m, rfl⟩:∃ j, m = j+1 := ⟨m - 1, by omega⟩; have c1:rem .u32 (r:Int) 10 = some ((r % 10:Nat):Int) := Z1e (q := 10) (by omega); have c2:quo .u32 (r:Int) 10 = some ((r / 10:Nat):Int) := quo_u32 (q := 10) (by omega) (by omega); have c3:IntKind.u32.wrap (((r % 10:Nat):Int)+1) = ((r % 10+1:Nat):Int) := by rw [wrap_u32]; omega
          have c4:chk .i64 ((k:Int)+1) = some ((k+1:Nat):Int) := by rw [show (k:Int)+1 = ((k+1:Nat):Int) by omega, Zpb (by omega)]
          rw [decide_eq_true ⟨h1, h2⟩, ZH, c1, Zd, Zd, c3, Z4o (Nat.mod_lt _ (by omega)), Zd, ZVe (by simp; omega), Zd, c2, Zd, c4, Zd]; rw [Nat.pow_succ] at hr; refine ⟨_, rfl, ⟨r / 10, k+1, m, rfl, rfl, by omega, by omega, by omega, ?_⟩, by simp; omega⟩; simp only; rw [← hd, Zjf h2, List.append_assoc]; have e2:(x / 1000000000 * 10 ^ (m+1)+r) / 10 = x / 1000000000 * 10 ^ m+r / 10 := by rw [Nat.pow_succ, ← Nat.mul_assoc]; generalize x / 1000000000 * 10 ^ m = p; omega
          have e3:(x / 1000000000 * 10 ^ (m+1)+r) % 10 = r % 10 := by rw [Nat.pow_succ, ← Nat.mul_assoc]; generalize x / 1000000000 * 10 ^ m = p; omega
          rw [e2, e3]
        · right; rw [decide_eq_false hc, ZD]; refine ⟨_, rfl, ?_⟩; rw [← hd]; congr 2; by_cases hm:m = 0
          · subst hm; simp at hr; simp [hr]
          · have h2:x / 1000000000 * 10 ^ m+r = 0 := by
              rcases Nat.eq_zero_or_pos (x / 1000000000 * 10 ^ m+r) with h | h
              · exact h
              · exact absurd ⟨by omega, by omega⟩ hc
            have h3:x / 1000000000 * 10 ^ m = 0 := by omega
            rcases Nat.mul_eq_zero.1 h3 with h | h
            · rw [h2, h]
            · exact absurd h (Nat.pos_iff_ne_zero.1 (Nat.pow_pos (by omega)))
      · rintro t ht; rw [Zd]; refine ⟨_, rfl, ⟨Zyk (Nat.div_le_self _ _) hx, ht⟩, ?_⟩; simp only; have := ZQi h0; have h3:bl (x / 1000000000)≤bl (x / 2) := ZCe (by omega); omega
  · rintro r rfl; rw [Zd, beq_nil]; unfold ZJb; by_cases h0:a = 0
    · subst h0; rw [decide_eq_true Zgd, ZH, if_pos rfl]
    · rw [decide_eq_false (fun h => h0 (ZMn.1 h)), ZD, if_neg h0]
theorem Zqr {n:Nat} {z:List UInt8} (h:Z5f n = some z):Zdh n = some z := by
  unfold Z5f at h; split at h
  · rename_i hh; rw [Zgs hh, h]
  · cases h
theorem ZYq (r:List (List UInt8)) (j:Nat):((r.drop j).reverse.flatten).length≤r.reverse.flatten.length := by
  have h:r.reverse.flatten = (r.drop j).reverse.flatten ++ (r.take j).reverse.flatten := by
    rw [← List.flatten_append, ← List.reverse_append, List.take_append_drop]
  rw [h, List.length_append]; omega
theorem Zfo (c:UInt8):∀ k:Nat, (List.replicate k [c]).flatten = List.replicate k c
  | 0 => rfl
  | k+1 => by rw [List.replicate_succ, List.flatten_cons, Zfo c k, List.replicate_succ]; rfl
theorem text_eq {a:Nat} (ha:okN a):Z1g a = some (ZJb a) := by
  unfold Z1g; have hbl := Zfk ha; have hda := ZBj a; rw [Z8a]; refine Zqb (fun s:Nat×List (List UInt8) => okN s.1∧ZSa s.1 ++ s.2.reverse.flatten = ZSa a∧bl s.1+s.2.length≤bl a) (fun s => bl s.1) (fun r:List (List UInt8) => r.reverse.flatten = ZSa a∧r.length≤bl a∧(a ≠ 0→r ≠ [])) ⟨ha, by simp, by simp⟩ (Z1a (by simp only; omega)) ?_ ?_
  · rintro ⟨x, s⟩ ⟨hx, he, hl⟩; simp only at hx he hl ⊢; by_cases h0:x = 0
    · right; subst h0; rw [Zbb, show decide ((0:Int) < (([]:List Int).length:Int)) = false from rfl, ZD]; rw [Zgd, List.nil_append] at he; refine ⟨_, rfl, he, by omega, fun h1 h2 => ?_⟩; subst h2; exact h1 (ZMn.1 he.symm)
    · left; have hpos := List.length_pos_iff.2 ((Zud (n := x) (B := 18446744073709551616) (by decide)).2 h0); have e1:Zse x (10000000000000000000:Int) = some (x / 10000000000000000000, ((x % 10000000000000000000:Nat):Int)) := by
        unfold Zse; rw [if_pos ⟨hx, by omega⟩]; rfl
      have e2:Zfg ((x % 10000000000000000000:Nat):Int) = some (ZSa (x % 10000000000000000000)) := by unfold Zfg; rw [Int.toNat_natCast]
      rw [decide_eq_true (show (0:Int) < ((Zm 18446744073709551616 x).length:Int) by omega), ZH, e1, Zd]; simp only; rw [e2, Zd]; have hr:(ZSa (x % 10000000000000000000)).length≤19 := ZQo (k := 19) (Nat.mod_lt _ (by decide)); have hb2:bl (x / 10000000000000000000)+1≤bl x := by
        rw [ZQi h0]; exact Nat.add_le_add_right (ZCe (by omega)) 1
      have hsplit:∃ p:List UInt8, ifb (decide ((0:Int) < ((Zm 18446744073709551616 (x / 10000000000000000000)).length:Int))) (bnd (chk .i64 (19 - ((ZSa (x % 10000000000000000000)).length:Int))) fun y218 => bnd (Zsg [48] y218) fun y220 => bnd (Znc (y220 ++ ZSa (x % 10000000000000000000))) fun y227 => some (y220 ++ ZSa (x % 10000000000000000000))) (some (ZSa (x % 10000000000000000000))) = some p∧ZSa (x / 10000000000000000000) ++ p = ZSa x := by
        by_cases hq:x / 10000000000000000000 = 0
        · refine ⟨_, by rw [hq, Zbb]; rfl, ?_⟩; rw [hq, Zgd, List.nil_append]; congr 1; omega
        · have hpos := List.length_pos_iff.2 ((Zud (n := x / 10000000000000000000) (B := 18446744073709551616) (by decide)).2 hq); obtain ⟨k, hk⟩:∃ k, k = 19 - (ZSa (x % 10000000000000000000)).length := ⟨_, rfl⟩; have e3:chk .i64 (19 - ((ZSa (x % 10000000000000000000)).length:Int)) = some (k:Int) := by rw [show (19 - ((ZSa (x % 10000000000000000000)).length:Int)) = (k:Int) by omega, Zpb (by omega)]
          have e4:Zsg [48] (k:Int) = some (List.replicate k 48) := by
            unfold Zsg; rw [if_pos ⟨by omega, by simp; omega⟩, Int.toNat_natCast, Zfo]
          refine ⟨List.replicate k 48 ++ ZSa (x % 10000000000000000000), ?_, ?_⟩
          · rw [decide_eq_true (by omega), ZH, e3, Zd, e4, Zd, ZVe (by simp; omega), Zd]
          · have := Zbr hq 19 (x % 10000000000000000000) (Nat.mod_lt _ (by decide)); rw [show x / 10000000000000000000 * 10 ^ 19+x % 10000000000000000000 = x by omega] at this; rw [this, hk]
      obtain ⟨p, ep, hp⟩ := hsplit; rw [ep, Zd, ZJe (by simp; omega), Zd]; refine ⟨_, rfl, ⟨Z5k (Nat.div_le_self _ _) hx, ?_, by simp; omega⟩, by simp only; omega⟩; simp only [List.reverse_append, List.reverse_cons, List.reverse_nil, List.nil_append, List.singleton_append, List.flatten_cons]; rw [← List.append_assoc, hp, he]
  · rintro r ⟨hr, hl, hne⟩; rw [Zd]; by_cases h0:a = 0
    · subst h0; have:r = [] := by
        have := hl; simp [bl] at this; exact this
      subst this; rfl
    · have hne := hne h0; have hpos:0 < r.length := List.length_pos_iff.2 hne; have e1:((r.length:Int) == 0) = false := beq_false_of_ne (by omega); rw [e1, ZD, Zea (by omega) (by omega), Zd, Z8a]; unfold ZJb; rw [if_neg h0]; refine Zqb (fun s:List UInt8×Int => ∃ k:Nat, s.2 = (k:Int) - 1∧k≤r.length∧s.1 = (r.drop k).reverse.flatten) (fun s => (s.2+1).toNat) (fun t:List UInt8 => t = ZSa a) ⟨r.length, rfl, by omega, by simp⟩ (Z1a (by simp only; omega)) ?_ ?_
      · rintro ⟨s, i⟩ ⟨k, hi, hk, hs⟩; simp only at hi hs ⊢; subst hi hs; by_cases hk0:k = 0
        · right; subst hk0; rw [show decide ((0:Int)≤((0:Nat):Int) - 1) = false from rfl, ZD]; exact ⟨_, rfl, by rw [List.drop_zero]; exact hr⟩
        · left; obtain ⟨j, rfl⟩:∃ j, k = j+1 := ⟨k - 1, by omega⟩; have ej:((j+1:Nat):Int) - 1 = (j:Int) := by omega
          have hj:j < r.length := by omega
          have hnew:(r.drop (j+1)).reverse.flatten ++ r[j] = (r.drop j).reverse.flatten := by
            rw [List.drop_eq_getElem_cons hj, List.reverse_cons, List.flatten_append]; simp
          have hlen:((r.drop j).reverse.flatten).length≤r.reverse.flatten.length := ZYq r j; rw [hr] at hlen; have e2:Zii ((r.drop (j+1)).reverse.flatten ++ r[j]) = some () := by unfold Zii; rw [if_pos (by rw [hnew]; omega)]
          rw [ej, decide_eq_true (show (0:Int)≤(j:Int) by omega), ZH, Zla hj, Zd, e2, Zd, Zea (by omega) (by omega), Zd]; exact ⟨_, rfl, ⟨j, rfl, by omega, hnew⟩, by simp⟩
      · rintro t rfl; rw [Zd, ZVe (by omega), Zd]
theorem ZNp {n:Nat} {z:List UInt8} (h:Z0f n = some z):Z1g n = some z := by
  unfold Z0f at h; split at h
  · rename_i hh; rw [text_eq hh, h]
  · cases h
theorem ZVi {n:Nat} (h:bl n≤4398046511104):(ZJb n).length≤4398046511104 := by
  unfold ZJb; split
  · simp
  · have := ZBj n; omega
theorem ZEr {x:Rat} {z:List UInt8} (h:ZUd x = some z):ZXj x = some z := by
  unfold ZUd at h; split at h
  · rename_i hh; obtain ⟨h1, h2⟩ := hh
    cases h
    unfold ZXj Z0f; have l1 := ZVi (n := x.num.natAbs) (by omega); have l2 := ZVi (n := x.den) (by omega); rw [if_pos (Zvb (by omega)), Zd]; have e1:ifb (decide (x.num < 0)) (bnd (Znc ([45] ++ ZJb x.num.natAbs)) fun y80 => some (([45]:List UInt8) ++ ZJb x.num.natAbs)) (some (ZJb x.num.natAbs)) = some ((if x.num < 0 then [45] else []) ++ ZJb x.num.natAbs) := by
      by_cases h:x.num < 0
      · rw [decide_eq_true h, ZH, ZVe (by simp; omega), Zd, if_pos h]
      · rw [decide_eq_false h, ZD, if_neg h]; rfl
    rw [e1, Zd]; unfold txtQ; have l3:((if x.num < 0 then [45] else []) ++ ZJb x.num.natAbs:List UInt8).length≤4398046511105 := by
      rw [List.length_append]; split <;> simp <;> omega
    generalize ((if x.num < 0 then [45] else []) ++ ZJb x.num.natAbs:List UInt8) = s at *; by_cases hd:x.den = 1
    · rw [hd]; rw [show Zxb 1 = 0 from rfl, Zbb]; simp [ifb, bnd]
    · have e2:Zxb x.den = x.den := by unfold Zxb; rw [if_neg hd]
      have hpos := List.length_pos_iff.2 ((Zud (n := x.den) (B := 18446744073709551616) (by decide)).2 x.den_nz); rw [e2, decide_eq_true (by omega), ZH, if_pos (Zvb (by omega)), Zd, ZVe (by simp; omega), Zd, ZVe (by simp; omega), Zd, Zd, if_neg hd]; rfl
  · cases h
theorem num_pos {q:Rat}:0 < q.num ↔ 0 < q := by
  have h1 := Rat.num_nonneg (q := q); have h2 := Rat.num_eq_zero (q := q); constructor
  · intro h; have h3:0≤q := h1.1 (by omega); have h4:q ≠ 0 := fun e => by have := h2.2 e; omega
    grind
  · intro h; have h3:0≤q.num := h1.2 (by grind); have h4:q.num ≠ 0 := fun e => by have := h2.1 e; grind
    omega
theorem num_neg {q:Rat}:q.num < 0 ↔ q < 0 := by
  have h1 := Rat.num_nonneg (q := q); constructor
  · intro h; rcases Rat.le_total (a := 0) (b := q) with h3 | h3
    · have := h1.2 h3; omega
    · have h4:q ≠ 0 := fun e => by subst e; simp at h
      grind
  · intro h; rcases Int.lt_or_le q.num 0 with h3 | h3
    · exact h3
    · have := h1.1 h3; grind
theorem Z2n {q:Rat}:(0 < q.num.sign) ↔ 0 < q := by
  rw [← num_pos]; rcases Int.lt_trichotomy q.num 0 with h | h | h
  · rw [Int.sign_eq_neg_one_of_neg h]; omega
  · rw [h]; simp
  · rw [Int.sign_eq_one_of_pos h]; omega
theorem ZLf {q:Rat}:(q.num.sign < 0) ↔ q < 0 := by
  rw [← num_neg]; rcases Int.lt_trichotomy q.num 0 with h | h | h
  · rw [Int.sign_eq_neg_one_of_neg h]; omega
  · rw [h]; simp
  · rw [Int.sign_eq_one_of_pos h]; omega
theorem ZSr {q:Rat}:(q.num.sign≤0) ↔ q≤0 := by
  have h := Z2n (q := q); constructor
  · intro h1; rcases Rat.le_total (a := q) (b := 0) with h2 | h2
    · exact h2
    · by_cases h3:q = 0
      · grind
      · have := h.2 (by grind); omega
  · intro h1; rcases Int.lt_or_le 0 q.num.sign with h2 | h2
    · have := h.1 h2; grind
    · exact h2
theorem Z3p {q:Rat}:(0≤q.num.sign) ↔ 0≤q := by
  have h := ZLf (q := q); constructor
  · intro h1; rcases Rat.le_total (a := 0) (b := q) with h2 | h2
    · exact h2
    · by_cases h3:q = 0
      · grind
      · have := h.2 (by grind); omega
  · intro h1; rcases Int.lt_or_le q.num.sign 0 with h2 | h2
    · have := h.1 h2; grind
    · exact h2
def sz (k:Nat) (x:Rat):Prop := bl x.num.natAbs≤k∧bl x.den≤k
theorem sz.mono {k m:Nat} {x:Rat} (h:sz k x) (hk:k≤m):sz m x := ⟨by have := h.1; omega, by have := h.2; omega⟩
theorem sz.ok {k:Nat} {x:Rat} (h:sz k x) (hk:k≤1099511627776):okQ x := ⟨by have := h.1; omega, by have := h.2; omega⟩
theorem sz.sm {k:Nat} {x:Rat} (h:sz k x) (hk:k≤68719476736):smQ x := ⟨by have := h.1; omega, by have := h.2; omega⟩
theorem Z9h {k m:Nat} {x y:Rat} (h:sz k x) (h':sz m y):sz (k+m+1) (x+y) := by
  have := Z4l x y; obtain ⟨a, b⟩ := h; obtain ⟨c, d⟩ := h'; exact ⟨by omega, by omega⟩
theorem Z7b {k m:Nat} {x y:Rat} (h:sz k x) (h':sz m y):sz (k+m+1) (x - y) := by
  have := Zpp x y; obtain ⟨a, b⟩ := h; obtain ⟨c, d⟩ := h'; exact ⟨by omega, by omega⟩
theorem ZEf {k m:Nat} {x y:Rat} (h:sz k x) (h':sz m y):sz (k+m) (x * y) := by
  have := ZVp x y; obtain ⟨a, b⟩ := h; obtain ⟨c, d⟩ := h'; exact ⟨by omega, by omega⟩
theorem Zbg {k m:Nat} {x y:Rat} (h:sz k x) (h':sz m y):sz (k+m+1) (x / y) := by
  have := ZAo (x := x) (y := y); obtain ⟨a, b⟩ := h; obtain ⟨c, d⟩ := h'; exact ⟨by omega, by omega⟩
theorem Zgj {n:Int} (h:-9223372036854775808≤n∧n≤9223372036854775807):sz 64 (n:Rat) := by
  have h2 := ZSl n; have h3:bl n.natAbs≤64 := ZGb (show n.natAbs < 2 ^ 64 by omega); exact ⟨by omega, by omega⟩
def i64 (r:Int×Int):Prop := (-9223372036854775808≤r.1∧r.1≤9223372036854775807)∧(-9223372036854775808≤r.2∧r.2≤9223372036854775807)
theorem Zlk {r:Int×Int} (h:i64 r):sz 64 (Zxd r) := by
  unfold Zxd; by_cases h0:r.2 = 0
  · rw [if_pos h0]; exact Zgj h.1
  · rw [if_neg h0, Z0j]; obtain ⟨⟨a, b⟩, c, d⟩ := h; rcases Z4h (if r.2 < 0 then -r.1 else r.1) r.2.natAbs with ⟨h1, h2⟩ | h1
    · have h3:bl (if r.2 < 0 then -r.1 else r.1).natAbs≤64 := ZGb (show _ < 2 ^ 64 by split <;> omega); have h4:bl r.2.natAbs≤64 := ZGb (show _ < 2 ^ 64 by omega); exact ⟨by omega, by omega⟩
    · omega
theorem ZIk {k m:Nat} {x y:Rat} (h:sz k x) (h':sz m y) (hk:k+m≤1000000000):Zad x y = some (x+y) := by unfold Zad; rw [if_pos ⟨h.ok (by omega), h'.ok (by omega)⟩]
theorem Zog {k m:Nat} {x y:Rat} (h:sz k x) (h':sz m y) (hk:k+m≤1000000000):ZKd x y = some (x - y) := by unfold ZKd; rw [if_pos ⟨h.ok (by omega), h'.ok (by omega)⟩]
theorem qmul_ok {k m:Nat} {x y:Rat} (h:sz k x) (h':sz m y) (hk:k+m≤1000000000):ZZd x y = some (x * y) := by unfold ZZd; rw [if_pos ⟨h.ok (by omega), h'.ok (by omega)⟩]
theorem ZVk {k m:Nat} {x y:Rat} (h:sz k x) (h':sz m y) (hk:k+m≤1000000000) (hy:y ≠ 0):ZMe x y = some (x / y, 0) := by unfold ZMe; rw [if_pos ⟨h.ok (by omega), h'.ok (by omega)⟩, if_neg hy]
theorem Zae {k m:Nat} {x y:Rat} (h:sz k x) (h':sz m y) (hk:k+m≤1000000000):ZOc x y = some (x - y).num.sign := by unfold ZOc; rw [if_pos ⟨h.ok (by omega), h'.ok (by omega)⟩]
def decG:Nat→Nat→List UInt8
  | 0, _ => []
  | k+1, n => if n = 0 then [] else decG k (n / 10) ++ [UInt8.ofNat (48+n % 10)]
theorem Zal:∀ (k n:Nat), n≤k→decG k n = ZSa n
  | 0, n, h => by
    have:n = 0 := by omega
    subst this; rw [Zgd]; rfl
  | k+1, n, h => by
    by_cases h0:n = 0
    · subst h0; rw [Zgd]; rfl
    · rw [Zjf h0, decG, if_neg h0, Zal k (n / 10) (by omega)]
def txtG (x:Rat):List UInt8 := (if x.num < 0 then [45] else []) ++ (if x.num.natAbs = 0 then [48] else decG x.num.natAbs x.num.natAbs) ++ (if x.den = 1 then [] else 47 :: (if x.den = 0 then [48] else decG x.den x.den))
theorem txtG_eq:txtG = txtQ := by
  funext x
  unfold txtG txtQ ZJb; rw [Zal _ _ (Nat.le_refl _), Zal _ _ (Nat.le_refl _)]
def ZBm (x:Rat):Option (List UInt8) := if okQ x then some (txtG x) else none
theorem ZOo:ZUd = ZBm := by
  funext x
  unfold ZUd ZBm; rw [txtG_eq]
noncomputable def Z6f (fv:Nat):Option (Nat) :=
 some ((Zvc .u64 ((fv:Int)) ((9223372036854775808:Int))).toNat)
noncomputable def Zxg (x:Nat):Option (Nat×Int) :=
 bnd (Z6f x) fun a =>
 ifb (fLt .f64 a ((4503599627370496:Nat)))
 (bnd (fMul .f64 x ((4841369599423283200:Nat))) fun b =>
 some ((b,(-52:Int))))
 (some ((x,(0:Int))))
noncomputable def Zsf (fv:Nat) (sign:Int):Option (Bool) :=
 bnd (ifb (sign == ((0:Int)))
 (bnd (Z6f fv) fun a =>
 some a)
 (bnd (ifb (decide (sign < (0:Int)))
 (bnd (fNeg .f64 fv) fun b =>
 some b)
 (some fv))
 (fun (c:Nat) =>
 (some c))))
 (fun (d:Nat) =>
 (some (fGt .f64 d ((9218868437227405311:Nat)))))
noncomputable def ZHd (fv:Nat):Option (Bool) :=
 some (fNe .f64 fv fv)
noncomputable def Zeh (fv:Nat):Option (Nat×Int) :=
 ifb (fEq .f64 fv ((0:Nat)))
 (some ((fv,(0:Int))))
 (bnd (bnd (Zsf fv ((0:Int))) fun b =>
 ifb (b)
 (some true)
 (bnd (ZHd fv) fun c =>
 some c))
 (fun (d:Bool) =>
 (ifb (d)
 (some ((fv,(0:Int))))
 (bnd (Zxg fv) fun a =>
 bnd (ZKa .u64 ((a.1:Int)) ((52:Int))) fun e =>
 bnd (chk .i64 ((IntKind.i64.wrap (ZMa .u64 e ((2047:Int)))) - ((1023:Int)))) fun f =>
 bnd (chk .i64 (f+((1:Int)))) fun g =>
 bnd (chk .i64 (a.2+g)) fun h =>
 some (((orI .u64 (Zvc .u64 ((a.1:Int)) ((9218868437227405312:Int))) ((4602678819172646912:Int))).toNat,h))))))
noncomputable def Zsi (fv:Nat):Option (Nat×Int) :=
 bnd (Zeh fv) fun a =>
 some ((a.1,a.2))
noncomputable def Zdk (fv:Nat) (sign:Nat):Option (Nat) :=
 some ((orI .u64 (Zvc .u64 ((fv:Int)) ((9223372036854775808:Int))) (ZMa .u64 ((sign:Int)) ((9223372036854775808:Int)))).toNat)
noncomputable def ZHi (sign:Int):Option (Nat) :=
 bnd (ifb (decide ((0:Int)≤sign))
 (some ((9218868437227405312:Int)))
 (some ((18442240474082181120:Int))))
 (fun (a:Int) =>
 (some a.toNat))
noncomputable def Zah (frac:Nat) (ex:Int):Option (Nat) :=
 ifb (fEq .f64 frac ((0:Nat)))
 (some frac)
 (bnd (bnd (Zsf frac ((0:Int))) fun c =>
 ifb (c)
 (some true)
 (bnd (ZHd frac) fun d =>
 some d))
 (fun (e:Bool) =>
 (ifb (e)
 (some frac)
 (bnd (Zxg frac) fun a =>
 bnd (chk .i64 (ex+a.2)) fun f =>
 bnd (ZKa .u64 ((a.1:Int)) ((52:Int))) fun g =>
 bnd (chk .i64 ((ZMa .i64 (IntKind.i64.wrap g) ((2047:Int))) - ((1023:Int)))) fun h =>
 bnd (chk .i64 (f+h)) fun b =>
 ifb (decide (b < (-1075:Int)))
 (bnd (Zdk ((0:Nat)) a.1) fun i =>
 some i)
 (ifb (decide ((1023:Int) < b))
 (ifb (fLt .f64 a.1 ((0:Nat)))
 (bnd (ZHi ((-1:Int))) fun j =>
 some j)
 (bnd (ZHi ((1:Int))) fun k =>
 some k))
 (bnd (ifb (decide (b < (-1022:Int)))
 (bnd (chk .i64 (b+((53:Int)))) fun l =>
 some ((l,(4368491638549381120:Nat))))
 (some ((b,(4607182418800017408:Nat)))))
 (fun (p:Int×Nat)=>match p with
 | (m,n) =>
 (bnd (chk .i64 (m+((1023:Int)))) fun o =>
 bnd (ZPb .u64 (IntKind.u64.wrap o) ((52:Int))) fun q =>
 bnd (fMul .f64 n ((orI .u64 (Zvc .u64 ((a.1:Int)) ((9218868437227405312:Int))) q).toNat)) fun r =>
 some r))))))))
noncomputable def ZLj (frac:Nat) (ex:Int):Option (Nat) :=
 bnd (Zah frac ex) fun a =>
 some a
noncomputable def Znd (fv:Nat):Option (Rat×Int) :=
 bnd (bnd (ZHd fv) fun d =>
 ifb (d)
 (some true)
 (bnd (Zsf fv ((0:Int))) fun e =>
 some e))
 (fun (f:Bool) =>
 (ifb (f)
 (some (((0:Rat),(1:Int))))
 (bnd (Zsi fv) fun c =>
 bnd (ZLj c.1 ((53:Int))) fun g =>
 bnd (Z3e .f64 .i64 g) fun h =>
 bnd (ofF h) fun a =>
 bnd (chk .i64 (c.2 - ((53:Int)))) fun b =>
 ifb (decide ((0:Int)≤b))
 (bnd (ZIc a.natAbs b) fun i =>
 bnd (Z0b (decide (a < 0)) i) fun j =>
 bnd (ZWd j ((0:Nat))) fun k =>
 some ((k,(0:Int))))
 (bnd (Z4c ((1:Int))) fun l =>
 bnd (ZIc l (IntKind.i64.wrap (-b))) fun m =>
 bnd (Zjd a m) fun n =>
 some ((n,(0:Int)))))))
section
variable {P:Program} {K:Nat} {w0:Base} {v0:Zf} {σ:List (Nat×Value)} {ℓ:List Loc} {v:Zf} {a:Act} {w:World} {ops:Array Oper} {Q:Exit→Act→World→Prop} {rest:List Oper}
def ZKe (r:Nat):Prop := r < 18446744073709551616∧9218868437227405312 < r % 9223372036854775808
theorem ZJp {s t:TypeId} {k0:FloatKind} {b f:Nat} {g:Bool} (hs:P.underlying s = some (.float k0)) (ht:P.underlying t = some (.float .f64)) (h:FloatKind.f32.decode b = .nan g f) (w:World) :
    ∃ r, ZKe r∧(convert s t (.float .f32 b)).run P w = .ok (.float .f64 r) w.drew := by
  refine ⟨(Question.nanConv .f64 b).cut (w.tape w.drawn (Question.nanConv .f64 b)), ?_, ?_⟩
  · generalize w.tape w.drawn (Question.nanConv .f64 b) = n; show ZKe ((n % 2) * 2 ^ 63+0x7ff0000000000000+1+(n / 2) % (2 ^ 52 - 1)); have e1:(2:Nat) ^ 63 = 9223372036854775808 := by decide
    have e2:(2:Nat) ^ 52 = 4503599627370496 := by decide
    rw [e1, e2]; unfold ZKe; have h1 := Nat.mod_lt (n / 2) (show 0 < 4503599627370496 - 1 by decide); have h2 := Nat.mod_lt n (show 0 < 2 by decide); generalize n / 2 % (4503599627370496 - 1) = x at *; generalize n % 2 = y at *; rcases (show y = 0 ∨ y = 1 by omega) with rfl | rfl
    · refine ⟨by omega, by omega⟩
    · refine ⟨by omega, by omega⟩
  · simp [convert, run_underlying hs, run_underlying ht, Conv.floatToFloat, h, choose, Sem.run, Question.forced]
theorem ZIr {s t:TypeId} {k0:FloatKind} {b:Nat} {g:Bool} (hs:P.underlying s = some (.float k0)) (ht:P.underlying t = some (.float .f64)) (h:FloatKind.f32.decode b = .infinity g) (w:World) :
    (convert s t (.float .f32 b)).run P w = .ok (.float .f64 (FloatKind.f64.encode (.infinity g))) w := by
  simp [convert, run_underlying hs, run_underlying ht, Conv.floatToFloat, h]
theorem ZZm (hS:St K w0 v0 σ ℓ v a w) {s t ty:TypeId} {d:Option Nat} {pos:String} {aft:Array Edge} {g:Option (Nat×Bool)} {x:Operand} {y z:Value} {w':World} (e:ev σ x = some y) (h:(convert s t y).run P w = .ok z w') :
    (execOp a.eval ⟨d, .convert s t x, ty, pos, aft, g⟩).run P w = .ok (.value z) w' := by
  simp [execOp, hS.eval e, h]
theorem ovd {o:Oper} {d:Nat} {x:Value} (hS:St K w0 v0 σ ℓ v a w) (hc:(o.dst, o.guard, Nat.ble (d+1) K) = (some d, none, true)) (hrun:(execOp a.eval o).run P w = .ok (.value x) w.drew)
    (h:∀ a, St K w0 v0 ((d, x) :: σ) ℓ v a w.drew→wpList P ops Q rest a w.drew):wpList P ops Q (o :: rest) a w :=
  ZYd (ZAc (Prod.mk.inj (Prod.mk.inj hc).2).1) (Zte hrun (by
    rw [(Prod.mk.inj hc).1]
    exact h _ (hS.drew.put x (Nat.le_of_ble_eq_true (Prod.mk.inj (Prod.mk.inj hc).2).2))))
end
abbrev canon64:Nat := 9221120237041090560
def ZJd (b:Nat):Option Nat := match FloatKind.f32.decode b with
  | .number _ _ _ => Z6d .f32 .f64 b
  | _ => some canon64
def as64 (y r:Nat):Prop := r = y ∨ (y = canon64∧(ZKe r ∨ ∃ g, r = FloatKind.f64.encode (.infinity g)))
section
variable {P:Program} {K:Nat} {w0:Base} {v0:Zf} {σ:List (Nat×Value)} {ℓ:List Loc} {v:Zf} {a:Act} {w:World} {ops:Array Oper} {Q:Exit→Act→World→Prop} {rest:List Oper}
theorem convN {s t:TypeId} {k0:FloatKind} {b y:Nat} (hs:P.underlying s = some (.float k0)) (ht:P.underlying t = some (.float .f64)) (h:ZJd b = some y) (w:World) :
    ∃ r, as64 y r∧r < 18446744073709551616∧((convert s t (.float .f32 b)).run P w = .ok (.float .f64 r) w ∨ (convert s t (.float .f32 b)).run P w = .ok (.float .f64 r) w.drew) := by
  unfold ZJd at h
  cases hd:FloatKind.f32.decode b with
  | number sg m e =>
    rw [hd] at h; exact ⟨y, .inl rfl, Znp h, .inl (conv_ff hs ht h w)⟩
  | infinity g =>
    rw [hd] at h; refine ⟨_, .inr ⟨(Option.some.inj h).symm, .inr ⟨g, rfl⟩⟩, ?_, .inl (ZIr hs ht hd w)⟩
    cases g <;> decide
  | nan g f =>
    rw [hd] at h; obtain ⟨r, h1, h2⟩ := ZJp hs ht hd w; exact ⟨r, .inr ⟨(Option.some.inj h).symm, .inl h1⟩, h1.1, .inr h2⟩
theorem ovn {s t ty:TypeId} {k0:FloatKind} {d:Nat} {pos:String} {aft:Array Edge} {x:Operand} {b y:Nat} (hS:St K w0 v0 σ ℓ v a w) (hc:(ev σ x, Nat.ble (d+1) K) = (some (.float .f32 b), true))
    (hs:P.underlying s = some (.float k0)) (ht:P.underlying t = some (.float .f64)) (hy:ZJd b = some y)
    (h:∀ r, as64 y r→r < 18446744073709551616→∀ a w', St K w0 v0 ((d, .float .f64 r) :: σ) ℓ v a w'→wpList P ops Q rest a w'):wpList P ops Q (⟨some d, .convert s t x, ty, pos, aft, none⟩ :: rest) a w := by
  have e := (Prod.mk.inj hc).1; have k := (Prod.mk.inj hc).2; obtain ⟨r, h1, h2, hrun⟩ := convN hs ht hy w; rcases hrun with hr | hr
  · exact ov hS (by rw [k]) (ZZm hS e hr) fun a hS => h r h1 h2 a _ hS
  · exact ovd hS (by rw [k]) (ZZm hS e hr) fun a hS => h r h1 h2 a _ hS
theorem Zbl {b:Nat} {s:Bool} {m:Nat} {e:Int} (h:FloatKind.f32.decode b = .number s m e):ZJd b = Z6d .f32 .f64 b := by
  unfold ZJd; rw [h]
end
noncomputable def ZNd (fv:Nat):Option (Rat×Int) :=
 bnd (ZJd fv) fun b =>
 bnd (Znd b) fun a =>
 some ((a.1,a.2))
set_option maxRecDepth 1000000
theorem ZCn (p q:Int):Zvc .u64 p q = (((p % 18446744073709551616).toNat &&& (18446744073709551615 - (q % 18446744073709551616).toNat):Nat):Int) := by
  unfold Zvc; have h1:(BitVec.ofInt IntKind.u64.bits p &&& ~~~BitVec.ofInt IntKind.u64.bits q).toNat = ((p % 18446744073709551616).toNat &&& (18446744073709551615 - (q % 18446744073709551616).toNat)) := by
    rw [BitVec.toNat_and, BitVec.toNat_not, BitVec.toNat_ofInt, BitVec.toNat_ofInt]; rfl
  rw [h1]; have h2:((p % 18446744073709551616).toNat &&& (18446744073709551615 - (q % 18446744073709551616).toNat))≤(p % 18446744073709551616).toNat := Nat.and_le_left; exact Zgc (ZFc.2 ⟨by omega, by omega⟩)
theorem or_fast (p q:Int):orI .u64 p q = (((p % 18446744073709551616).toNat ||| (q % 18446744073709551616).toNat:Nat):Int) := by
  unfold orI; have h1:(BitVec.ofInt IntKind.u64.bits p ||| BitVec.ofInt IntKind.u64.bits q).toNat = ((p % 18446744073709551616).toNat ||| (q % 18446744073709551616).toNat) := by
    rw [BitVec.toNat_or, BitVec.toNat_ofInt, BitVec.toNat_ofInt]; rfl
  have h2 := (BitVec.ofInt IntKind.u64.bits p ||| BitVec.ofInt IntKind.u64.bits q).isLt; rw [h1] at h2 ⊢; have h3:(2:Nat) ^ IntKind.u64.bits = 18446744073709551616 := rfl; exact Zgc (ZFc.2 ⟨by omega, by omega⟩)
theorem ZLa {α β:Type} {x:Option α} {y:α} {f:α→Option β} {z:Option β} (h:x = some y) (h2:f y = z):bnd x f = z := by subst h; rw [Zd]; exact h2
theorem Zrc {S R:Type} {body:S→Option (S ⊕ R)} {s:S} {r:R} (st:Nat→S) (n:Nat) (h0:st 0 = s) (hn:n < 2 ^ 64) (h:∀ k, k < n→body (st k) = some (.inl (st (k+1)))) (he:body (st n) = some (.inr r)):Zca body Zwa s = some r := by
  have key:∀ m f k, k+m = n→m < f→Zca body f (st k) = some r := by
    intro m
    induction m with
    | zero =>
      intro f k hk hf; obtain ⟨f, rfl⟩:∃ g, f = g+1 := ⟨f - 1, by omega⟩; obtain rfl:k = n := by omega
      unfold Zca; rw [he, Zd]
    | succ m ih =>
      intro f k hk hf; obtain ⟨f, rfl⟩:∃ g, f = g+1 := ⟨f - 1, by omega⟩; unfold Zca; rw [h k (by omega), Zd]; exact ih f (k+1) (by omega) (by omega)
  rw [← h0]; exact key n Zwa 0 (by omega) (Z1a (by omega))
def ent (t:List (List Int)) (i k:Nat):Int := (t.getD i []).getD k 0
def upd (l:List Int) (i:Nat) (x:Int):List Int := l.set i (l.getD i 0+x)
theorem Z0c {α:Type} {l:List α} {i:Nat} {d:α} (h:i < l.length):l.getD i d = l[i] := by rw [List.getD_eq_getElem?_getD, List.getElem?_eq_getElem h]; rfl
def rcF (t:List (List Int)) (i k:Nat) (p:List Int×List Int):List Int×List Int := (upd p.1 i (ent t i k), upd p.2 k (ent t i k))
def RC (n:Nat) (B:Int) (p:List Int×List Int):Prop := p.1.length = n∧p.2.length = n∧(∀ x ∈ p.1, 0≤x∧x≤B)∧(∀ x ∈ p.2, 0≤x∧x≤B)
theorem RC.at1 {n:Nat} {B:Int} {p:List Int×List Int} (h:RC n B p) {i:Nat} (hi:i < n):∃ hh:i < p.1.length, 0≤p.1[i]∧p.1[i]≤B∧p.1.getD i 0 = p.1[i] := by
  have h1:i < p.1.length := by rw [h.1]; exact hi
  exact ⟨h1, (h.2.2.1 _ (List.getElem_mem h1)).1, (h.2.2.1 _ (List.getElem_mem h1)).2, Z0c h1⟩
theorem RC.at2 {n:Nat} {B:Int} {p:List Int×List Int} (h:RC n B p) {i:Nat} (hi:i < n):∃ hh:i < p.2.length, 0≤p.2[i]∧p.2[i]≤B∧p.2.getD i 0 = p.2[i] := by
  have h1:i < p.2.length := by rw [h.2.1]; exact hi
  exact ⟨h1, (h.2.2.2 _ (List.getElem_mem h1)).1, (h.2.2.2 _ (List.getElem_mem h1)).2, Z0c h1⟩
theorem ZKm {l:List Int} {i:Nat} {x B:Int} (hx:0≤x∧x≤1000000) (hi:i < l.length) (h:∀ y ∈ l, 0≤y∧y≤B):∀ y ∈ upd l i x, 0≤y∧y≤B+1000000 := by
  intro y hy; unfold upd at hy; have h2 := h _ (List.getElem_mem hi); rcases List.mem_or_eq_of_mem_set hy with h1 | h1
  · have := h y h1; omega
  · rw [Z0c hi] at h1; omega
structure Good (t:List (List Int)):Prop where
  n0:0 < t.length
  n8:t.length≤8
  sq:∀ i, (h:i < t.length)→t[i].length = t.length
  ok:∀ i k, i < t.length→k < t.length→0≤ent t i k∧ent t i k≤1000000
theorem RC.step {t:List (List Int)} (g:Good t) {B:Int} {p:List Int×List Int} {i k:Nat} (hi:i < t.length) (hk:k < t.length) (h:RC t.length B p):RC t.length (B+1000000) (rcF t i k p) :=
  ⟨by simp [rcF, upd, h.1], by simp [rcF, upd, h.2.1], ZKm (g.ok i k hi hk) (by rw [h.1]; exact hi) h.2.2.1, ZKm (g.ok i k hi hk) (by rw [h.2.1]; exact hk) h.2.2.2⟩
theorem RC.mono {n:Nat} {B C:Int} {p:List Int×List Int} (h:RC n B p) (hB:B≤C):RC n C p :=
  ⟨h.1, h.2.1, fun x hx => by have := h.2.2.1 x hx; omega, fun x hx => by have := h.2.2.2 x hx; omega⟩
def pqF (t:List (List Int)) (w:Nat→Nat→Rat) (p:List Int×List Int) (i k:Nat) (s:Rat×Rat):Rat×Rat :=
  (s.1+w i k * ((ent t i k:Int):Rat), s.2+w i k * ((p.1.getD i 0:Int):Rat) * ((p.2.getD k 0:Int):Rat))
def SZ (k:Nat) (s:Rat×Rat):Prop := sz k s.1∧sz k s.2
theorem SZ.mono {k m:Nat} {s:Rat×Rat} (h:SZ k s) (hk:k≤m):SZ m s := ⟨h.1.mono hk, h.2.mono hk⟩
theorem ZNg:sz 1 (0:Rat) := by constructor <;> decide
section
variable {t:List (List Int)} {w:Nat→Nat→Rat} {p:List Int×List Int}
theorem SZ.step (g:Good t) (hw:∀ i k, i < t.length→k < t.length→sz 200 (w i k)) (hp:RC t.length 64000000 p) {i k c:Nat} {s:Rat×Rat} (hi:i < t.length) (hk:k < t.length) (h:SZ c s):SZ (c+400) (pqF t w p i k s) := by
  have e := g.ok i k hi hk; obtain ⟨_, a1, a2, a3⟩ := hp.at1 hi; obtain ⟨_, b1, b2, b3⟩ := hp.at2 hk; refine ⟨(Z9h h.1 (ZEf (hw i k hi hk) (Zgj (n := ent t i k) (by omega)))).mono (by omega), (Z9h h.2 (ZEf (ZEf (hw i k hi hk) (Zgj (n := p.1.getD i 0) (by omega))) (Zgj (n := p.2.getD k 0) (by omega)))).mono (by omega)⟩
end
set_option maxRecDepth 100000
noncomputable def ZQg (x:Rat):Option (Rat) :=
 bnd (ZHc x) fun a =>
 bnd (Zyb (!(decide (x.num < 0))) x.num.natAbs a) fun b =>
 some b
noncomputable def Z5g (x:Rat) (y:Rat):Option (Rat) :=
 bnd (ZHc x) fun a =>
 bnd (ZHc y) fun b =>
 bnd (Zkb x.num.natAbs b) fun c =>
 bnd (Zkb y.num.natAbs a) fun d =>
 ifb ((decide (x.num < 0)) == (decide (y.num < 0)))
 (bnd (ZFg c d) fun e =>
 bnd (Zkb a b) fun f =>
 bnd (Zyb (decide (x.num < 0)) e f) fun g =>
 some g)
 (bnd (ZMd c d) fun h =>
 ifb (decide ((0:Int)≤h))
 (bnd (ZJc c d) fun i =>
 bnd (Zkb a b) fun j =>
 bnd (Zyb (decide (x.num < 0)) i j) fun k =>
 some k)
 (bnd (ZJc d c) fun l =>
 bnd (Zkb a b) fun m =>
 bnd (Zyb (decide (y.num < 0)) l m) fun n =>
 some n))
noncomputable def ZTj (x:Rat) (y:Rat):Option (Rat) :=
 bnd (Zei y) fun a =>
 bnd (ZAd x a) fun b =>
 some b
noncomputable def Z7j (x:Rat) (y:Rat):Option (Rat) :=
 bnd (Zkb x.num.natAbs y.num.natAbs) fun a =>
 bnd (ZHc x) fun b =>
 bnd (ZHc y) fun c =>
 bnd (Zkb b c) fun d =>
 bnd (Zyb ((decide (x.num < 0)) != (decide (y.num < 0))) a d) fun e =>
 some e
noncomputable def Zui (x:Rat) (y:Rat):Option (Rat×Int) :=
 bnd (Zpe y) fun a =>
 ifb (a)
 (bnd (Z9b ((0:Int))) fun b =>
 some ((b,(3:Int))))
 (bnd (ZHc y) fun c =>
 bnd (Zkb x.num.natAbs c) fun d =>
 bnd (ZHc x) fun e =>
 bnd (Zkb e y.num.natAbs) fun f =>
 bnd (Zyb ((decide (x.num < 0)) != (decide (y.num < 0))) d f) fun g =>
 some ((g,(0:Int))))
noncomputable def Zaj (x:Rat) (y:Rat):Option (Rat) :=
 bnd (Z7h x y) fun a =>
 some a.1
noncomputable def Zak (x:Rat) (y:Rat):Option (Int) :=
 bnd (Zbc x y) fun a =>
 bnd (Zdf a) fun b =>
 some b
noncomputable def ZRi (x:Rat):Option ((List UInt8)) :=
 bnd (Z5f x.num.natAbs) fun b =>
 bnd (ifb (decide (x.num < 0))
 (bnd (Zpe x) fun d =>
 some (!(d)))
 (some false))
 (fun (e:Bool) =>
 (bnd (ifb (e)
 (bnd (Znc ((([45]:List UInt8)) ++ b)) fun j =>
 some (((([45]:List UInt8)) ++ b)))
 (some b))
 (fun (a:(List UInt8)) =>
 (bnd (ZHc x) fun f =>
 bnd (ZDc ([(1:Int)])) fun g =>
 bnd (ZMd f g) fun h =>
 bnd (ifb (decide ((0:Int) < h))
 (bnd (Znc (a ++ (([47]:List UInt8)))) fun k =>
 bnd (Z5f x.den) fun c =>
 bnd (Znc (((a ++ (([47]:List UInt8)))) ++ c)) fun l =>
 some ((((a ++ (([47]:List UInt8)))) ++ c)))
 (some a))
 (fun (i:(List UInt8)) =>
 (some i))))))
theorem ZWc {n:Nat} (h:bl n≤1099511627776):Zjb n := Zgo (by omega)
theorem Z4b {n:Nat} (h:bl n≤1099511627776):ZYa n := by have := ZWc h; unfold Zjb at this; unfold ZYa; omega
theorem rneg_eq {x:Rat} (h:okQ x):ZQg x = some (-x) := by
  obtain ⟨h1, h2⟩ := h; unfold ZQg ZHc Zyb; rw [Zd, if_pos ⟨ZWc h1, ZWc h2, x.den_nz⟩, Zd]; congr 1; have e:sgn (!(decide (x.num < 0))) x.num.natAbs = -x.num := by
    unfold sgn; by_cases h:x.num < 0
    · simp [h]; omega
    · simp [h]; omega
  rw [e]; exact Rat.mkRat_self (-x)
theorem ZUr {x z:Rat} (h:Zei x = some z):ZQg x = some z := by
  unfold Zei at h; split at h
  · rename_i hh; rw [rneg_eq hh, h]
  · cases h
theorem radd_eq {x y:Rat} (h:smQ x) (h':smQ y):Z5g x y = some (x+y) := by
  obtain ⟨a1, a2⟩ := h; obtain ⟨b1, b2⟩ := h'; unfold Z5g ZHc; have p1 := ZSb x.num.natAbs y.den; have p2 := ZSb y.num.natAbs x.den; have p3 := ZSb x.den y.den; have p4 := Zil (x.num.natAbs * y.den) (y.num.natAbs * x.den); have hd:x.den * y.den ≠ 0 := Nat.mul_ne_zero x.den_nz y.den_nz; have e1:Zkb x.num.natAbs y.den = some (x.num.natAbs * y.den) := by unfold Zkb; rw [if_pos ⟨Z4b (by omega), Z4b (by omega)⟩]
  have e2:Zkb y.num.natAbs x.den = some (y.num.natAbs * x.den) := by unfold Zkb; rw [if_pos ⟨Z4b (by omega), Z4b (by omega)⟩]
  have e3:Zkb x.den y.den = some (x.den * y.den) := by unfold Zkb; rw [if_pos ⟨Z4b (by omega), Z4b (by omega)⟩]
  have eN:((x.num.natAbs * y.den:Nat):Int) = (x.num.natAbs:Int) * y.den := by simp
  have eM:((y.num.natAbs * x.den:Nat):Int) = (y.num.natAbs:Int) * x.den := by simp
  have key:∀ (s:Bool) (n:Nat), bl n≤1099511627776→sgn s n = x.num * y.den+y.num * x.den→Zyb s n (x.den * y.den) = some (x+y) := by
    intro s n hn he; unfold Zyb; rw [if_pos ⟨ZWc hn, ZWc (by omega), hd⟩, he, ← Rat.add_def']
  rw [Zd, Zd, e1, Zd, e2, Zd, e3]; obtain ⟨N, hN⟩:∃ N, N = x.num.natAbs * y.den := ⟨_, rfl⟩; obtain ⟨M, hM⟩:∃ M, M = y.num.natAbs * x.den := ⟨_, rfl⟩; rw [← hN] at p1 p4 eN ⊢; rw [← hM] at p2 p4 eM ⊢; have sx:x.num * (y.den:Int) = if x.num < 0 then -(N:Int) else N := by
    split
    · rw [eN, ← Int.neg_mul]; congr 1; omega
    · rw [eN]; congr 1; omega
  have sy:y.num * (x.den:Int) = if y.num < 0 then -(M:Int) else M := by
    split
    · rw [eM, ← Int.neg_mul]; congr 1; omega
    · rw [eM]; congr 1; omega
  by_cases hs:(x.num < 0) ↔ (y.num < 0)
  · have e4:ZFg N M = some (N+M) := by unfold ZFg; rw [if_pos ⟨Z4b (by omega), Z4b (by omega)⟩]
    have e5:((decide (x.num < 0)) == (decide (y.num < 0))) = true := by
      by_cases h:x.num < 0
      · simp [h, hs.1 h]
      · have h2:¬ y.num < 0 := fun k => h (hs.2 k); simp [h, h2]
    rw [e5, ZH, e4, Zd, Zd, key _ _ (by omega) ?_, Zd]; rw [sx, sy]; unfold sgn; by_cases h:x.num < 0
    · have h2 := hs.1 h; simp [h, h2]; omega
    · have h2:¬ y.num < 0 := fun k => h (hs.2 k); simp [h, h2]
  · have e5:((decide (x.num < 0)) == (decide (y.num < 0))) = false := by
      apply beq_false_of_ne; intro h; exact hs (by by_cases k:x.num < 0 <;> by_cases k2:y.num < 0 <;> simp_all)
    rw [e5, ZD]; unfold ZMd; rw [Zd]; by_cases hle:M≤N
    · have e6:decide ((0:Int)≤Zlb N M) = true := by
        unfold Zlb; rw [if_neg (by omega)]; split <;> rfl
      have e4:ZJc N M = some (N - M) := by unfold ZJc; rw [if_pos ⟨Z4b (by omega), hle⟩]
      have hb:bl (N - M)≤bl N := ZCe (by omega); rw [e6, ZH, e4, Zd, Zd, key _ _ (by omega) ?_, Zd]; rw [sx, sy]; unfold sgn; by_cases h:x.num < 0
      · have h2:¬ y.num < 0 := fun k => hs ⟨fun _ => k, fun _ => h⟩; simp [h, h2]; omega
      · have h2:y.num < 0 := by
          rcases Int.lt_or_le y.num 0 with k | k
          · exact k
          · exact absurd ⟨fun q => absurd q h, fun q => absurd q (by omega)⟩ hs
        simp [h, h2]; omega
    · have e6:decide ((0:Int)≤Zlb N M) = false := by
        unfold Zlb; rw [if_pos (by omega)]; rfl
      have e4:ZJc M N = some (M - N) := by unfold ZJc; rw [if_pos ⟨Z4b (by omega), by omega⟩]
      have hb:bl (M - N)≤bl M := ZCe (by omega); rw [e6, ZD, e4, Zd, Zd, key _ _ (by omega) ?_, Zd]; rw [sx, sy]; unfold sgn; by_cases h:x.num < 0
      · have h2:¬ y.num < 0 := fun k => hs ⟨fun _ => k, fun _ => h⟩; simp [h, h2]; omega
      · have h2:y.num < 0 := by
          rcases Int.lt_or_le y.num 0 with k | k
          · exact k
          · exact absurd ⟨fun q => absurd q h, fun q => absurd q (by omega)⟩ hs
        simp [h, h2]; omega
theorem Zsr {x y z:Rat} (h:ZAd x y = some z):Z5g x y = some z := by
  unfold ZAd at h; split at h
  · rename_i hh; rw [radd_eq hh.1 hh.2, h]
  · cases h
theorem smQ_neg {x:Rat} (h:smQ x):smQ (-x) := by
  unfold smQ at *; have := ZEk x; rw [this.1, this.2]; exact h
theorem smQ_ok {x:Rat} (h:smQ x):okQ x := by unfold smQ at h; unfold okQ; omega
theorem Zmp {x y z:Rat} (h:Zbc x y = some z):ZTj x y = some z := by
  unfold Zbc at h; split at h
  · rename_i hh; unfold ZTj Zei ZAd; rw [if_pos (smQ_ok hh.2), Zd, if_pos ⟨hh.1, smQ_neg hh.2⟩, Zd, ← Rat.sub_eq_add_neg]; exact h
  · cases h
theorem Zzr {x y z:Rat} (h:Zwe x y = some z):Z7j x y = some z := by
  unfold Zwe at h; split at h
  · rename_i hh; obtain ⟨⟨a1, a2⟩, b1, b2⟩ := hh
    cases h
    unfold Z7j ZHc; have p1 := ZSb x.num.natAbs y.num.natAbs; have p3 := ZSb x.den y.den; have e1:Zkb x.num.natAbs y.num.natAbs = some (x.num.natAbs * y.num.natAbs) := by unfold Zkb; rw [if_pos ⟨Z4b (by omega), Z4b (by omega)⟩]
    have e3:Zkb x.den y.den = some (x.den * y.den) := by unfold Zkb; rw [if_pos ⟨Z4b (by omega), Z4b (by omega)⟩]
    rw [e1, Zd, Zd, Zd, e3, Zd]; unfold Zyb; rw [if_pos ⟨ZWc (by omega), ZWc (by omega), Nat.mul_ne_zero x.den_nz y.den_nz⟩, Zd]; have e:sgn ((decide (x.num < 0)) != (decide (y.num < 0))) (x.num.natAbs * y.num.natAbs) = x.num * y.num := by
      have eN:((x.num.natAbs * y.num.natAbs:Nat):Int) = (x.num.natAbs:Int) * y.num.natAbs := by simp
      unfold sgn; rw [eN]; by_cases h:x.num < 0
      · have hx:(x.num.natAbs:Int) = -x.num := by omega
        by_cases h2:y.num < 0
        · have hy:(y.num.natAbs:Int) = -y.num := by omega
          simp [h, h2, hx, hy, Int.neg_mul, Int.mul_neg]
        · have hy:(y.num.natAbs:Int) = y.num := by omega
          simp [h, h2, hx, hy, Int.neg_mul, Int.mul_neg]
      · have hx:(x.num.natAbs:Int) = x.num := by omega
        by_cases h2:y.num < 0
        · have hy:(y.num.natAbs:Int) = -y.num := by omega
          simp [h, h2, hx, hy, Int.neg_mul, Int.mul_neg]
        · have hy:(y.num.natAbs:Int) = y.num := by omega
          simp [h, h2, hx, hy, Int.neg_mul, Int.mul_neg]
    rw [e, ← Rat.mul_def']
  · cases h
theorem Zuq {x y:Rat} {z:Rat×Int} (h:Z7h x y = some z):Zui x y = some z := by
  unfold Z7h at h; split at h
  · rename_i hh; obtain ⟨⟨a1, a2⟩, b1, b2⟩ := hh
    cases h
    unfold Zui Zpe; rw [Zd]; by_cases h0:y = 0
    · subst h0; rfl
    · rw [decide_eq_false h0, ZD, if_neg h0]; unfold ZHc; have hn := Z4j h0; have p1 := ZSb x.num.natAbs y.den; have p3 := ZSb x.den y.num.natAbs; have e1:Zkb x.num.natAbs y.den = some (x.num.natAbs * y.den) := by unfold Zkb; rw [if_pos ⟨Z4b (by omega), Z4b (by omega)⟩]
      have e3:Zkb x.den y.num.natAbs = some (x.den * y.num.natAbs) := by unfold Zkb; rw [if_pos ⟨Z4b (by omega), Z4b (by omega)⟩]
      rw [Zd, e1, Zd, Zd, e3, Zd]; unfold Zyb; rw [if_pos ⟨ZWc (by omega), ZWc (by omega), Nat.mul_ne_zero x.den_nz (by omega)⟩, Zd]; have e:sgn ((decide (x.num < 0)) != (decide (y.num < 0))) (x.num.natAbs * y.den) = if y.num < 0 then -(x.num * (y.den:Int)) else x.num * (y.den:Int) := by
        have eN:((x.num.natAbs * y.den:Nat):Int) = (x.num.natAbs:Int) * y.den := by simp
        unfold sgn; rw [eN]; by_cases h:x.num < 0
        · have hx:(x.num.natAbs:Int) = -x.num := by omega
          by_cases h2:y.num < 0 <;> simp [h, h2, hx, Int.neg_mul]
        · have hx:(x.num.natAbs:Int) = x.num := by omega
          by_cases h2:y.num < 0 <;> simp [h, h2, hx, Int.neg_mul]
      rw [e, ← Zrk h0]
  · cases h
theorem rbyF_eq {x y z:Rat} (h:ZEe x y = some z):Zaj x y = some z := by
  unfold ZEe at h; split at h
  · rename_i hh
    cases h
    unfold Zaj Z7h; rw [if_pos hh, Zd]; split <;> rfl
  · cases h
theorem Zsq {x y:Rat} {z:Int} (h:Z3c x y = some z):Zak x y = some z := by
  unfold Z3c at h; split at h
  · rename_i hh
    cases h
    unfold Zak Zbc Zdf; rw [if_pos hh, Zd, Zd]
  · cases h
theorem ZFq {x:Rat} {z:List UInt8} (h:Zai x = some z):ZRi x = some z := by
  unfold Zai at h; split at h
  · rename_i hh; obtain ⟨h1, h2⟩ := hh
    cases h
    unfold ZRi Z5f; have l1 := ZVi (n := x.num.natAbs) (by omega); have l2 := ZVi (n := x.den) (by omega); rw [if_pos (ZWc h1), Zd]; have e0:ifb (decide (x.num < 0)) (bnd (Zpe x) fun y136 => some (!(y136))) (some false) = some (decide (x.num < 0)) := by
      unfold Zpe; by_cases h:x.num < 0
      · have:x ≠ 0 := fun e => by subst e; simp at h
        rw [decide_eq_true h, ZH, Zd, decide_eq_false this]; rfl
      · rw [decide_eq_false h, ZD]
    rw [e0, Zd]; have e1:ifb (decide (x.num < 0)) (bnd (Znc ([45] ++ ZJb x.num.natAbs)) fun y80 => some (([45]:List UInt8) ++ ZJb x.num.natAbs)) (some (ZJb x.num.natAbs)) = some ((if x.num < 0 then [45] else []) ++ ZJb x.num.natAbs) := by
      by_cases h:x.num < 0
      · rw [decide_eq_true h, ZH, ZVe (by simp; omega), Zd, if_pos h]
      · rw [decide_eq_false h, ZD, if_neg h]; rfl
    rw [e1, Zd]; unfold txtQ ZHc ZMd; have l3:((if x.num < 0 then [45] else []) ++ ZJb x.num.natAbs:List UInt8).length≤4398046511105 := by
      rw [List.length_append]; split <;> simp <;> omega
    generalize ((if x.num < 0 then [45] else []) ++ ZJb x.num.natAbs:List UInt8) = s at *; rw [Zd, Zth, Zd, Zd, Znn]; by_cases hd:x.den = 1
    · rw [hd]; simp [ifb, bnd]
    · have := x.den_nz; rw [decide_eq_true (by omega), ZH, ZVe (by simp; omega), Zd, if_pos (ZWc h2), Zd, ZVe (by simp; omega), Zd, Zd, if_neg hd]; simp
  · cases h
noncomputable def Zmi (x:Rat) (y:Rat):Option (Bool) :=
 bnd (ZUd x) fun a =>
 bnd (Zai y) fun b =>
 some (a == b)
set_option maxRecDepth 100000
theorem ZZk {k m:Nat} {x y:Rat} (h:sz k x) (h':sz m y) (hk:k+m≤1000000000):ZAd x y = some (x+y) := by unfold ZAd; rw [if_pos ⟨h.sm (by omega), h'.sm (by omega)⟩]
theorem Zrg {k m:Nat} {x y:Rat} (h:sz k x) (h':sz m y) (hk:k+m≤1000000000):Zbc x y = some (x - y) := by unfold Zbc; rw [if_pos ⟨h.sm (by omega), h'.sm (by omega)⟩]
theorem Zcm {k m:Nat} {x y:Rat} (h:sz k x) (h':sz m y) (hk:k+m≤1000000000):Zwe x y = some (x * y) := by unfold Zwe; rw [if_pos ⟨h.sm (by omega), h'.sm (by omega)⟩]
theorem Z6m {k m:Nat} {x y:Rat} (h:sz k x) (h':sz m y) (hk:k+m≤1000000000) (hy:y ≠ 0):ZEe x y = some (x / y) := by unfold ZEe; rw [if_pos ⟨h.sm (by omega), h'.sm (by omega)⟩, if_neg hy]
theorem Zde {k m:Nat} {x y:Rat} (h:sz k x) (h':sz m y) (hk:k+m≤1000000000):Z3c x y = some (x - y).num.sign := by unfold Z3c; rw [if_pos ⟨h.sm (by omega), h'.sm (by omega)⟩]
theorem is1_ok {k:Nat} {x:Rat} (h:sz k x) (hk:k≤1000000000):Zmi x x = some true := by
  unfold Zmi ZUd Zai; rw [if_pos (h.ok (by omega)), Zd, Zd]; simp
set_option maxRecDepth 100000
def dW (s:Bool) (E M:Nat):Nat := (if s then 9223372036854775808 else 0)+E * 4503599627370496+M
theorem d_sw:FloatKind.f64.format.signWeight = 9223372036854775808 := by decide
theorem d_bi:FloatKind.f64.format.binade = 4503599627370496 := by decide
theorem d_in:FloatKind.f64.format.infRung = 9218868437227405312 := by decide
theorem d_lp:FloatKind.f64.format.leastPlace = -1074 := by decide
theorem d_fb:FloatKind.f64.format.fractionBits = 52 := rfl
theorem ZRd {s:Bool} {E M:Nat} (h1:1≤E) (h2:E≤2046) (h3:M < 4503599627370496):FloatKind.f64.format.read (dW s E M) = .number s (4503599627370496+M) ((E:Int) - 1075) := by
  unfold Ieee.Format.read; simp only [d_sw, d_bi, d_in, d_lp]; have hr:dW s E M % 9223372036854775808 = E * 4503599627370496+M := by unfold dW; cases s <;> simp <;> omega
  have hs:(dW s E M / 9223372036854775808 % 2 == 1) = s := by
    unfold dW
    cases s
    · simp; omega
    · simp; omega
  rw [hr, hs, if_neg (by omega), if_pos (by omega), show (E * 4503599627370496+M) % 4503599627370496 = M by omega, show (E * 4503599627370496+M) / 4503599627370496 = E by omega, show (-1074+((E - 1:Nat):Int)) = (E:Int) - 1075 by omega]
theorem cut0 (s:Bool) (n:Nat):Ieee.Toward.even.cut s n 0 = n := by
  unfold Ieee.Toward.cut; simp [Nat.mod_one]
theorem d_wr {s:Bool} {m L:Nat} {e:Int} (h0:m ≠ 0) (hL:m.log2 = L) (h52:L≤52) (h1:-1022≤e+L) (h2:e+L≤1023):FloatKind.f64.format.write (.number s m e) = dW s (e+L+1023).toNat (m * 2 ^ (52 - L) - 4503599627370496) := by
  have hb := (Nat.log2_eq_iff h0).1 hL; have hp:2 ^ L * 2 ^ (52 - L) = 4503599627370496 := by rw [← Nat.pow_add, show L+(52 - L) = 52 by omega]
  have q1:4503599627370496≤m * 2 ^ (52 - L) := by rw [← hp]; exact Nat.mul_le_mul_right _ hb.1
  have q2:m * 2 ^ (52 - L) < 9007199254740992 := by
    have:m * 2 ^ (52 - L) < 2 ^ (L+1) * 2 ^ (52 - L) := Nat.mul_lt_mul_of_pos_right hb.2 (Nat.two_pow_pos _); rw [Nat.pow_succ, Nat.mul_comm (2 ^ L) 2, Nat.mul_assoc, hp] at this; omega
  show Ieee.Format.nearest _ _ _ _ = _; unfold Ieee.Format.nearest; simp only [d_bi, d_in, d_lp, d_fb]; rw [if_neg h0, hL]; have hm:max (e+(L:Int) - ((52:Nat):Int)) (-1074) = e+L - 52 := by omega
  rw [hm, show (e - (e+(L:Int) - 52)).toNat = 52 - L by omega, show (e+(L:Int) - 52 - e).toNat = 0 by omega, cut0, Nat.shiftLeft_eq]; generalize m * 2 ^ (52 - L) = n at *; have hk:(e+(L:Int) - 52 - -1074).toNat = (e+L+1023).toNat - 1 := by omega
  rw [hk]; have hE:1≤(e+(L:Int)+1023).toNat∧(e+(L:Int)+1023).toNat≤2046 := by omega
  generalize (e+(L:Int)+1023).toNat = E at *; rw [Nat.min_eq_left (by omega)]; unfold Ieee.Format.word dW; rw [d_sw]
  cases s <;> simp <;> omega
theorem d_wr1 {s:Bool} {M:Nat} (h:M < 4503599627370496):FloatKind.f64.format.write (.number s (4503599627370496 * (4503599627370496+M)) (-52)) = dW s 1075 M := by
  have hl:(4503599627370496 * (4503599627370496+M)).log2 = 104 := (Nat.log2_eq_iff (by omega)).2 ⟨by omega, by omega⟩; show Ieee.Format.nearest _ _ _ _ = _; unfold Ieee.Format.nearest; simp only [d_bi, d_in, d_lp, d_fb]; rw [if_neg (by omega), hl]; have hm:max ((-52:Int)+((104:Nat):Int) - ((52:Nat):Int)) (-1074) = 0 := by decide
  rw [hm, show (-52 - (0:Int)).toNat = 0 by decide, show ((0:Int) - -52).toNat = 52 by decide, show ((0:Int) - -1074).toNat = 1074 by decide, Nat.shiftLeft_zero]; unfold Ieee.Toward.cut; rw [hl, show min 52 (104+2) = 52 by decide, show (1:Nat) <<< 52 = 4503599627370496 by decide]; simp only []; rw [Nat.mul_div_cancel_left _ (by omega), Nat.mul_mod_right]; simp only [Nat.mul_zero, Nat.not_lt_zero, decide_false, Bool.false_or, Nat.reduceBEq, Bool.false_and, Bool.toNat_false, Nat.add_zero]; rw [Nat.min_eq_left (by omega)]; unfold Ieee.Format.word dW; rw [d_sw]
  cases s <;> simp <;> omega
section
variable {s:Bool} {E M:Nat}
theorem Zrf (h2:E≤2047) (h3:M < 4503599627370496):dW s E M < 18446744073709551616 := by unfold dW; cases s <;> simp <;> omega
theorem Z6g (x:Nat) (k:Nat):x &&& (2 ^ k - 1) = x % 2 ^ k := Nat.and_two_pow_sub_one_eq_mod x k
theorem d_abs (h2:E≤2047) (h3:M < 4503599627370496):Z6f (dW s E M) = some (dW false E M) := by
  have hl := Zrf (s := s) h2 h3; unfold Z6f; rw [ZCn]; have e1:((dW s E M:Int) % 18446744073709551616).toNat = dW s E M := by omega
  have e2:(18446744073709551615 - ((9223372036854775808:Int) % 18446744073709551616).toNat) = 2 ^ 63 - 1 := by decide
  rw [e1, e2, Z6g]; have e3:dW s E M % 2 ^ 63 = dW false E M := by
    rw [show (2:Nat) ^ 63 = 9223372036854775808 by decide]; unfold dW; cases s <;> simp <;> omega
  rw [e3, Int.toNat_natCast]
theorem ZCj (h2:E≤2047) (h3:M < 4503599627370496):∃ q:Int, ZKa .u64 ((dW s E M:Nat):Int) 52 = some q∧ZMa .u64 q 2047 = E∧ZMa .i64 (IntKind.i64.wrap q) 2047 = E := by
  have hl := Zrf (s := s) h2 h3; refine ⟨((dW s E M / 4503599627370496:Nat):Int), ?_, ?_, ?_⟩
  · unfold ZKa; rw [if_neg (by omega), show min (52:Int).toNat IntKind.u64.bits = 52 by decide, Int.fdiv_eq_ediv_of_nonneg _ (by decide)]; rfl
  · unfold ZMa; have hq:dW s E M / 4503599627370496 % 2 ^ 11 = E := by
      rw [show (2:Nat) ^ 11 = 2048 by decide]; unfold dW; cases s <;> simp <;> omega
    have hb:dW s E M / 4503599627370496 < 18446744073709551616 := by omega
    generalize dW s E M / 4503599627370496 = q at *; have h1:(BitVec.ofInt IntKind.u64.bits (q:Int) &&& BitVec.ofInt IntKind.u64.bits 2047).toNat = E := by
      rw [BitVec.toNat_and, BitVec.toNat_ofInt, BitVec.toNat_ofInt]; show ((q:Int) % 18446744073709551616).toNat &&& (2 ^ 11 - 1) = E; rw [show ((q:Int) % 18446744073709551616).toNat = q by omega, Z6g, hq]
    rw [h1]; exact Zgc (ZFc.2 ⟨by omega, by omega⟩)
  · have hq:dW s E M / 4503599627370496 % 2 ^ 11 = E := by
      rw [show (2:Nat) ^ 11 = 2048 by decide]; unfold dW; cases s <;> simp <;> omega
    have hb:dW s E M / 4503599627370496 < 4096 := by omega
    generalize dW s E M / 4503599627370496 = q at *; have hw:IntKind.i64.wrap (q:Int) = q := Zgc (ZDb.2 ⟨by omega, by omega⟩); unfold ZMa; rw [hw]; have h1:(BitVec.ofInt IntKind.i64.bits (q:Int) &&& BitVec.ofInt IntKind.i64.bits 2047).toNat = E := by
      rw [BitVec.toNat_and, BitVec.toNat_ofInt, BitVec.toNat_ofInt]; show ((q:Int) % 18446744073709551616).toNat &&& (2 ^ 11 - 1) = E; rw [show ((q:Int) % 18446744073709551616).toNat = q by omega, Z6g, hq]
    rw [h1]; exact Zgc (ZDb.2 ⟨by omega, by omega⟩)
theorem and_bit (n i:Nat):n &&& 2 ^ i = (n.testBit i).toNat * 2 ^ i := by
  refine Nat.eq_of_testBit_eq fun j => ?_; rw [Nat.testBit_and, Nat.testBit_two_pow]; by_cases h:i = j
  · subst h
    cases hb:n.testBit i
    · simp
    · simp
  · cases hb:n.testBit i
    · simp [h]
    · simp [h]
theorem ZAq {E M:Nat} (s:Bool) (h2:E≤2047) (h3:M < 4503599627370496):dW s E M &&& 9227875636482146303 = dW s 0 M := by
  have e0:(9227875636482146303:Nat) = 2 ^ 63 ||| (2 ^ 52 - 1) := by decide
  rw [e0, Nat.and_or_distrib_left, Z6g, and_bit]; have e1:dW s E M % 2 ^ 52 = M := by
    rw [show (2:Nat) ^ 52 = 4503599627370496 by decide]; unfold dW; cases s <;> simp <;> omega
  have e2:(dW s E M).testBit 63 = s := by
    rw [Nat.testBit_eq_decide_div_mod_eq, show (2:Nat) ^ 63 = 9223372036854775808 by decide]; unfold dW; cases s
    · simp; omega
    · simp; omega
  rw [e1, e2]; unfold dW
  cases s
  · simp
  · have := Nat.two_pow_add_eq_or_of_lt (i := 63) (b := M) (by rw [show (2:Nat) ^ 63 = 9223372036854775808 by decide]; omega) 1; rw [Nat.mul_one] at this; simp only [Bool.toNat_true, Nat.one_mul, Nat.mul_one]; rw [← this]; simp
theorem Zeq {F M:Nat} (s:Bool) (h3:M < 4503599627370496) (hF:F≤2047):dW s 0 M ||| F * 4503599627370496 = dW s F M := by
  have hM:M < 2 ^ 52 := by rw [show (2:Nat) ^ 52 = 4503599627370496 by decide]; exact h3
  have e1 := Nat.two_pow_add_eq_or_of_lt hM F; have e2 := Nat.two_pow_add_eq_or_of_lt (i := 63) (b := F * 4503599627370496+M) (by rw [show (2:Nat) ^ 63 = 9223372036854775808 by decide]; omega) 1; have e3 := Nat.two_pow_add_eq_or_of_lt (i := 63) (b := M) (by rw [show (2:Nat) ^ 63 = 9223372036854775808 by decide]; omega) 1; rw [show (2:Nat) ^ 52 = 4503599627370496 by decide, Nat.mul_comm] at e1; rw [show (2:Nat) ^ 63 * 1 = 9223372036854775808 by decide] at e2 e3; unfold dW
  cases s
  · simp only [Bool.false_eq_true, if_false, Nat.zero_mul, Nat.zero_add]; rw [Nat.or_comm, ← e1]
  · simp only [if_true, Nat.zero_mul, Nat.add_zero]; rw [e3, Nat.or_assoc, Nat.or_comm M, ← e1, ← e2]; omega
theorem d_set {F:Nat} (h2:E≤2047) (h3:M < 4503599627370496) (hF:F≤2047):orI .u64 (Zvc .u64 ((dW s E M:Nat):Int) 9218868437227405312) ((F * 4503599627370496:Nat):Int) = (dW s F M:Nat) := by
  have hl := Zrf (s := s) h2 h3; have hl0 := Zrf (s := s) (E := 0) (by omega) h3; rw [ZCn, or_fast]; have e1:((dW s E M:Int) % 18446744073709551616).toNat = dW s E M := by omega
  have e2:(18446744073709551615 - ((9218868437227405312:Int) % 18446744073709551616).toNat) = 9227875636482146303 := by decide
  rw [e1, e2, ZAq s h2 h3]; have e3:((dW s 0 M:Int) % 18446744073709551616).toNat = dW s 0 M := by omega
  have e4:(((F * 4503599627370496:Nat):Int) % 18446744073709551616).toNat = F * 4503599627370496 := by omega
  rw [e3, e4, Zeq s h3 hF]
end
set_option maxRecDepth 100000
theorem sgn_pos {s:Bool} {m k:Nat} (h:0 < m):Ieee.signed s m k ≠ 0 := by
  have:0 < m <<< k := by rw [Nat.shiftLeft_eq]; exact Nat.mul_pos h (Nat.two_pow_pos _)
  unfold Ieee.signed
  cases s <;> simp only [Bool.false_eq_true, if_false, if_true] <;> omega
theorem Zhi {m k:Nat}:Ieee.signed false m k = ((m * 2 ^ k:Nat):Int) := by
  unfold Ieee.signed; rw [if_neg (by decide), Nat.shiftLeft_eq]
theorem d_self (x:Nat) {s:Bool} {m:Nat} {e:Int} (h:FloatKind.f64.format.read x = .number s m e):ZHd x = some false := by
  unfold ZHd fNe Ieee.Format.order; rw [h]; unfold Ieee.Datum.order; simp
section
variable {s:Bool} {E M:Nat} (h1:1≤E) (h2:E≤2046) (h3:M < 4503599627370496)
include h1 h2 h3
theorem d_nan:ZHd (dW s E M) = some false := d_self _ (ZRd h1 h2 h3)
theorem d_inf:Zsf (dW s E M) 0 = some false := by
  unfold Zsf; rw [show ((0:Int) == 0) = true from rfl, ZH, d_abs (by omega) h3, Zd, Zd]; unfold fGt Ieee.Format.order; rw [ZRd h1 h2 h3, show (9218868437227405311:Nat) = dW false 2046 4503599627370495 by decide, ZRd (by omega) (by omega) (by omega)]; unfold Ieee.Datum.order; simp only; rw [show min ((E:Int) - 1075) (((2046:Nat):Int) - 1075) = (E:Int) - 1075 by omega, show ((E:Int) - 1075 - ((E:Int) - 1075)).toNat = 0 by omega, Zhi, Zhi]; have hp := Nat.two_pow_pos ((((2046:Nat):Int) - 1075 - ((E:Int) - 1075)).toNat); generalize 2 ^ ((((2046:Nat):Int) - 1075 - ((E:Int) - 1075)).toNat) = p at *; have hm:(4503599627370496+4503599627370495) * 1≤(4503599627370496+4503599627370495) * p := Nat.mul_le_mul_left _ hp; have hc:compare (((4503599627370496+M) * 2 ^ 0:Nat):Int) (((4503599627370496+4503599627370495) * p:Nat):Int) ≠ .gt := by
    intro hc; have := Int.compare_eq_gt.1 hc; omega
  congr 1; rw [beq_eq_false_iff_ne]; intro hh; exact hc (Option.some.inj hh)
theorem d_low:fLt .f64 (dW false E M) 4503599627370496 = false := by
  unfold fLt Ieee.Format.order; have hr := ZRd (s := false) (E := 1) (M := 0) (by omega) (by omega) (by omega); rw [show dW false 1 0 = 4503599627370496 by decide] at hr; rw [ZRd h1 h2 h3, hr]; unfold Ieee.Datum.order; simp only; rw [show min ((E:Int) - 1075) (((1:Nat):Int) - 1075) = -1074 by omega, show (((1:Nat):Int) - 1075 - -1074).toNat = 0 by omega, Zhi, Zhi]; have hp := Nat.two_pow_pos (((E:Int) - 1075 - -1074).toNat); generalize 2 ^ (((E:Int) - 1075 - -1074).toNat) = p at *; have hm:(4503599627370496+M) * 1≤(4503599627370496+M) * p := Nat.mul_le_mul_left _ hp; rw [beq_eq_false_iff_ne]; intro hh; have := Int.compare_eq_lt.1 (Option.some.inj hh); omega
theorem d_ne0:fEq .f64 (dW s E M) 0 = false := by
  unfold fEq Ieee.Format.order; rw [ZRd h1 h2 h3, show FloatKind.f64.format.read 0 = .number false 0 (-1074) by decide]; unfold Ieee.Datum.order; simp only; rw [beq_eq_false_iff_ne]; intro hh; have := Int.compare_eq_eq.1 (Option.some.inj hh); rw [Zhi, Nat.zero_mul] at this; exact sgn_pos (by omega) this
theorem Zam:Zxg (dW s E M) = some (dW s E M, 0) := by
  unfold Zxg; rw [d_abs (by omega) h3, Zd, d_low h1 h2 h3, ZD]
theorem d_frexp:Zeh (dW s E M) = some (dW s 1022 M, (E:Int) - 1022) := by
  unfold Zeh; obtain ⟨q, q1, q2, _⟩ := ZCj (s := s) (E := E) (M := M) (by omega) h3; rw [d_ne0 h1 h2 h3, ZD, d_inf h1 h2 h3, Zd, ZD, d_nan h1 h2 h3, Zd, Zd, ZD, Zam h1 h2 h3, Zd]; simp only; rw [q1, Zd, q2, Zgc (ZDb.2 ⟨by omega, by omega⟩), Zea (by omega) (by omega), Zd, Zea (by omega) (by omega), Zd, Zea (by omega) (by omega), Zd]; rw [show (4602678819172646912:Int) = ((1022 * 4503599627370496:Nat):Int) by decide, d_set (by omega) h3 (by omega), Int.toNat_natCast]; congr 2; omega
end
theorem Zes {k:FloatKind} {i:IntKind} {b:Nat} {n:Int} (h:(k.decode b).toInt .zero = some n) (h2:i.min≤n∧n≤i.max):Z3e k i b = some n := by
  unfold Z3e; rw [h]; exact if_pos h2
theorem Zuk {n:Nat} (h:n < 18446744073709551616):fits (some n) = some n := by unfold fits; simp [h]
section
variable {s:Bool} {M:Nat} (h3:M < 4503599627370496)
include h3
theorem d_mul:fMul .f64 4607182418800017408 (dW s 1075 M) = some (dW s 1075 M) := by
  unfold fMul Ieee.Format.mul; rw [show (4607182418800017408:Nat) = dW false 1023 0 by decide, ZRd (by omega) (by omega) (by omega), ZRd (by omega) (by omega) h3]; unfold Ieee.Datum.product; simp only [Option.map_some]; rw [show (((1023:Nat):Int) - 1075+(((1075:Nat):Int) - 1075)) = -52 by decide, Bool.false_xor, Nat.add_zero, d_wr1 h3]; exact Zuk (Zrf (by omega) h3)
theorem d_ldexp:Zah (dW s 1022 M) 53 = some (dW s 1075 M) := by
  unfold Zah; obtain ⟨q, q1, _, q2⟩ := ZCj (s := s) (E := 1022) (M := M) (by omega) h3; have sh:ZPb .u64 (IntKind.u64.wrap 1075) 52 = some ((1075 * 4503599627370496:Nat):Int) := by
    unfold ZPb; have w1:IntKind.u64.wrap 1075 = 1075 := Zgc (ZFc.2 ⟨by omega, by omega⟩); have p52:(2:Int) ^ 52 = 4503599627370496 := by decide
    rw [w1, if_neg (by omega), show min (52:Int).toNat IntKind.u64.bits = 52 from rfl, p52]; exact congrArg some (Zgc (ZFc.2 ⟨by omega, by omega⟩))
  rw [d_ne0 (by omega) (by omega) h3, ZD, d_inf (by omega) (by omega) h3, Zd, ZD, d_nan (by omega) (by omega) h3, Zd, Zd, ZD, Zam (by omega) (by omega) h3, Zd]; simp only; rw [Zea (by omega) (by omega), Zd, q1, Zd, q2, Zea (by omega) (by omega), Zd, Zea (by omega) (by omega), Zd, show (53+0+(((1022:Nat):Int) - 1023):Int) = 52 by decide]; rw [show decide ((52:Int) < -1075) = false by decide, ZD, show decide ((1023:Int) < 52) = false by decide, ZD, show decide ((52:Int) < -1022) = false by decide, ZD, Zd]; simp only; rw [Zea (by omega) (by omega), Zd, show (52+1023:Int) = 1075 by decide, sh, Zd, d_set (by omega) h3 (by omega), Int.toNat_natCast, d_mul h3, Zd]
theorem d_toInt:(FloatKind.f64.decode (dW s 1075 M)).toInt .zero = some (if s then -((4503599627370496+M:Nat):Int) else ((4503599627370496+M:Nat):Int)) := by
  have hd:FloatKind.f64.decode (dW s 1075 M) = .number s (4503599627370496+M) (((1075:Nat):Int) - 1075) := ZRd (by omega) (by omega) h3; rw [hd]; generalize 4503599627370496+M = n; unfold Ieee.Datum.toInt Ieee.Datum.integral; have c0:∀ n, Ieee.Toward.zero.cut s n 0 = n := fun n => by
    unfold Ieee.Toward.cut; simp
  have t1:(((1075:Nat):Int) - 1075).toNat = 0 := by decide
  have t2:(-(((1075:Nat):Int) - 1075)).toNat = 0 := by decide
  simp only [t1, t2, Nat.shiftLeft_zero, c0]; unfold Ieee.signed; simp only [Nat.shiftLeft_zero]
theorem d_int:Z3e .f64 .i64 (dW s 1075 M) = some (if s then -((4503599627370496+M:Nat):Int) else ((4503599627370496+M:Nat):Int)) := by
  refine Zes (d_toInt h3) ?_; have m1:IntKind.i64.min = -9223372036854775808 := by decide
  have m2:IntKind.i64.max = 9223372036854775807 := by decide
  rw [m1, m2]; generalize hn:4503599627370496+M = n; have hb:n≤9223372036854775807 := by omega
  clear hn
  cases s
  · simp only [Bool.false_eq_true, if_false]; omega
  · simp only [if_true]; omega
end
set_option maxRecDepth 100000
def sI (s:Bool) (n:Nat):Int := if s then -(n:Int) else (n:Int)
def dV (s:Bool) (E M:Nat):Rat := if 1075≤E then ((sI s ((4503599627370496+M) * 2 ^ (E - 1075)):Int):Rat) else mkRat (sI s (4503599627370496+M)) (2 ^ (1075 - E))
theorem Zsj (s:Bool) (n:Nat):(sI s n).natAbs = n := by unfold sI; cases s <;> simp
theorem sI_neg {s:Bool} {n:Nat} (h:0 < n):decide (sI s n < 0) = s := by
  unfold sI
  cases s
  · show decide ((n:Int) < 0) = false; exact decide_eq_false (by omega)
  · show decide (-(n:Int) < 0) = true; exact decide_eq_true (by omega)
theorem ZTk {n k:Nat} (h:n < 2 ^ k) (hk:k≤4398046511104):okN n := Zvb (Nat.le_trans (ZGb h) hk)
section
variable {s:Bool} {E M:Nat} (h1:1≤E) (h2:E≤2046) (h3:M < 4503599627370496)
include h1 h2 h3
theorem Zmr:Znd (dW s E M) = some (dV s E M, 0) := by
  unfold Znd; rw [d_nan h1 h2 h3, Zd, ZD, d_inf h1 h2 h3, Zd, Zd, ZD]; unfold Zsi ZLj; rw [d_frexp h1 h2 h3]; simp only [Zd]; rw [d_ldexp h3]; simp only [Zd]; rw [d_int h3]; have hn:okN (4503599627370496+M) := ZTk (k := 53) (by rw [show (2:Nat) ^ 53 = 9007199254740992 by decide]; omega) (by omega); have hpos:0 < 4503599627370496+M := by omega
  have e1:(if s = true then -((4503599627370496+M:Nat):Int) else ((4503599627370496+M:Nat):Int)) = sI s (4503599627370496+M) := rfl; rw [e1]; unfold dV; generalize 4503599627370496+M = n at *; have o1:ofF (sI s n) = some (sI s n) := rfl; have ck:chk .i64 ((E:Int) - 1022 - 53) = some ((E:Int) - 1022 - 53) := Zea (by omega) (by omega); rw [Zd, o1, Zd, ck, Zd]; by_cases hE:1075≤E
  · rw [show decide (0≤(E:Int) - 1022 - 53) = true from decide_eq_true (by omega), ZH, if_pos hE, Zsj, sI_neg hpos]; have hk:((E:Int) - 1022 - 53).toNat = E - 1075 := by omega
    have l1:ZIc n ((E:Int) - 1022 - 53) = some (n * 2 ^ (E - 1075)) := by unfold ZIc; rw [if_pos ⟨hn, by omega, by omega⟩, hk]
    rw [l1, Zd]; have w1:Z0b s (n * 2 ^ (E - 1075)) = some (sI s (n * 2 ^ (E - 1075))) := rfl; rw [w1, Zd]; generalize sI s (n * 2 ^ (E - 1075)) = i; have c1:ZWd i 0 = some (i:Rat) := by
      unfold ZWd; have l0:ZOe 0 = 1 := rfl; have m1:mkRat i 1 = (i:Rat) := by rw [Rat.mkRat_one]
      rw [l0, m1, if_pos ⟨by decide, Rat.num_intCast _, by rw [Rat.den_intCast]; rfl⟩]
    rw [c1, Zd]
  · rw [show decide (0≤(E:Int) - 1022 - 53) = false from decide_eq_false (by omega), ZD, if_neg hE]; have w1:Z4c 1 = some 1 := rfl; have w2:IntKind.i64.wrap (-((E:Int) - 1022 - 53)) = ((1075 - E:Nat):Int) := by
      rw [Zgc (ZDb.2 ⟨by omega, by omega⟩)]; omega
    rw [w1, Zd, w2]; have hp:okN (2 ^ (1075 - E)) := ZTk (k := 1076 - E) (Nat.pow_lt_pow_right (by omega) (by omega)) (by omega); have l1:ZIc 1 ((1075 - E:Nat):Int) = some (2 ^ (1075 - E)) := by
      unfold ZIc; rw [if_pos ⟨ZTk (k := 1) (by decide) (by omega), by omega, by omega⟩, Int.toNat_natCast, Nat.one_mul]
    have hz:2 ^ (1075 - E) ≠ 0 := Nat.ne_of_gt (Nat.two_pow_pos _); rw [l1, Zd]; unfold Zjd; rw [Zsj, if_pos ⟨hn, hp, hz⟩, Zd]
end
theorem f_sw:FloatKind.f32.format.signWeight = 2147483648 := by decide
theorem f_bi:FloatKind.f32.format.binade = 8388608 := by decide
theorem f_in:FloatKind.f32.format.infRung = 2139095040 := by decide
theorem f_lp:FloatKind.f32.format.leastPlace = -149 := by decide
section
variable {m L:Nat} (h0:m ≠ 0) (hL:m.log2 = L) (h23:L≤23)
include h0 hL h23
theorem f_top:8388608≤m * 2 ^ (23 - L)∧m * 2 ^ (23 - L) < 16777216 := by
  have hb := (Nat.log2_eq_iff h0).1 hL; have hp:2 ^ L * 2 ^ (23 - L) = 8388608 := by rw [← Nat.pow_add, show L+(23 - L) = 23 by omega]
  refine ⟨by rw [← hp]; exact Nat.mul_le_mul_right _ hb.1, ?_⟩; have:m * 2 ^ (23 - L) < 2 ^ (L+1) * 2 ^ (23 - L) := Nat.mul_lt_mul_of_pos_right hb.2 (Nat.two_pow_pos _); rw [Nat.pow_succ, Nat.mul_comm (2 ^ L) 2, Nat.mul_assoc, hp] at this; omega
end
set_option maxRecDepth 100000
theorem Z2r {r:Nat} (h:ZKe r):∃ g f, FloatKind.f64.format.read r = .nan g f := by
  obtain ⟨_, h2⟩ := h; unfold Ieee.Format.read; simp only [d_sw, d_bi, d_in, d_lp]; rw [if_neg (by omega), if_neg (by omega), if_neg (by omega)]; exact ⟨_, _, rfl⟩
theorem Zbh {r:Nat} (h:ZKe r):Znd r = some (0, 1) := by
  obtain ⟨g, f, hr⟩ := Z2r h; have hn:ZHd r = some true := by
    unfold ZHd fNe Ieee.Format.order; rw [hr]; rfl
  unfold Znd; rw [hn, Zd, ZH, Zd, ZH]
theorem Zoo (g:Bool):Znd (FloatKind.f64.encode (.infinity g)) = some (0, 1) := by
  have h1:∀ g, ZHd (FloatKind.f64.encode (.infinity g)) = some false∧Zsf (FloatKind.f64.encode (.infinity g)) 0 = some true := by
    intro g
    cases g
    · decide +kernel
    · decide +kernel
  obtain ⟨a, b⟩ := h1 g; unfold Znd; rw [a, Zd, ZD, b, Zd, Zd, ZH]
theorem Zaf:ZKe canon64 := ⟨by decide, by decide⟩
theorem ZTo {y r:Nat} {z:Rat×Int} (h:as64 y r) (e:Znd y = some z):Znd r = some z := by
  rcases h with rfl | ⟨rfl, h | ⟨g, rfl⟩⟩
  · exact e
  · rw [Zbh h, ← e, Zbh Zaf]
  · rw [Zoo, ← e, Zbh Zaf]
set_option maxRecDepth 100000
theorem ZLl {fv:Nat} {s:Bool} {m:Nat} {e:Int} (h:FloatKind.f32.decode fv = .number s m e):m < 16777216∧-149≤e∧e≤104 := by
  have h':FloatKind.f32.format.read fv = .number s m e := h; unfold Ieee.Format.read at h'; simp only [f_sw, f_bi, f_in, f_lp] at h'; split at h'
  · cases h'
    exact ⟨by omega, by omega, by omega⟩
  · split at h'
    · cases h'
      exact ⟨by omega, by omega, by omega⟩
    · split at h'
      · cases h'
      · cases h'
def dE (m:Nat) (e:Int):Nat := (e+m.log2+1023).toNat
def dM (m:Nat):Nat := m * 2 ^ (52 - m.log2) - 4503599627370496
section
variable {s:Bool} {m:Nat} {e:Int} (h0:m ≠ 0) (h1:m < 16777216) (h2:-149≤e) (h3:e≤104)
include h0 h1 h2 h3
theorem Zlj:m.log2≤23 := by
  have := (Nat.log2_lt h0 (k := 24)).2 (by omega); omega
theorem d_ok:1≤dE m e∧dE m e≤2046∧dM m < 4503599627370496 := by
  have hL := Zlj h0 h1 h2 h3; obtain ⟨q1, q2⟩ := f_top h0 rfl hL; have e5:m * 2 ^ (23 - m.log2) * 2 ^ (52 - 23) = m * 2 ^ (52 - m.log2) := by rw [Nat.mul_assoc, ← Nat.pow_add, show 23 - m.log2+(52 - 23) = 52 - m.log2 by omega]
  unfold dE dM; rw [← e5, show (2:Nat) ^ (52 - 23) = 536870912 by decide]; exact ⟨by omega, by omega, by omega⟩
theorem d_enc:FloatKind.f64.encode (.number s m e) = dW s (dE m e) (dM m) := d_wr h0 rfl (by have := Zlj h0 h1 h2 h3; omega) (by omega) (by have := Zlj h0 h1 h2 h3; omega)
theorem ZAn {fv:Nat} (h:FloatKind.f32.decode fv = .number s m e):Z6d .f32 .f64 fv = some (dW s (dE m e) (dM m)) := by
  obtain ⟨a, b, c⟩ := d_ok h0 h1 h2 h3; have hd:FloatKind.f64.decode (dW s (dE m e) (dM m)) = _ := ZRd a b c; unfold Z6d; rw [if_neg (by decide), h]; simp only; rw [d_enc h0 h1 h2 h3, hd]; simp only [Ieee.Datum.isInfinity, Bool.false_eq_true, if_false]; exact Zuk (Zrf (by omega) c)
end
def X32 (fv:Nat):Rat×Int := match FloatKind.f32.decode fv with
  | .number s m e => if m = 0 then (0, 0) else (dV s (dE m e) (dM m), 0)
  | _ => (0, 1)
theorem Zfn {fv:Nat} {s:Bool} {e:Int} (h:FloatKind.f32.decode fv = .number s 0 e):Z6d .f32 .f64 fv = some (if s then 9223372036854775808 else 0) := by
  have he:FloatKind.f64.encode (.number s 0 e) = if s then 9223372036854775808 else 0 := by
    show Ieee.Format.nearest FloatKind.f64.format s 0 e = _; unfold Ieee.Format.nearest Ieee.Format.word; rw [if_pos rfl, d_sw]
  have hi:∀ s:Bool, (FloatKind.f64.decode (if s then 9223372036854775808 else 0)).isInfinity = false := fun s => by cases s <;> decide
  unfold Z6d; rw [if_neg (by decide), h]; simp only; rw [he, hi s]; simp only [Bool.false_eq_true, if_false]; exact Zuk (by cases s <;> simp)
theorem xfloat0 (s:Bool):Znd (if s then 9223372036854775808 else 0) = some (0, 0) := by
  cases s <;> decide +kernel
theorem ZJr {fv:Nat} {s:Bool} {m:Nat} {e:Int} (h:FloatKind.f32.decode fv = .number s m e):ZNd fv = some (X32 fv) := by
  obtain ⟨h1, h2, h3⟩ := ZLl h; unfold ZNd X32; rw [h]; by_cases h0:m = 0
  · subst h0; rw [Zbl h, Zfn h, Zd, xfloat0, Zd]; simp only [if_true]
  · obtain ⟨a, b, c⟩ := d_ok h0 h1 h2 h3; rw [Zbl h, ZAn h0 h1 h2 h3 h, Zd, Zmr a b c, Zd]; simp only [if_neg h0]
theorem ZBg (fv:Nat):ZNd fv = some (X32 fv) := by
  cases h:FloatKind.f32.decode fv with
  | number s m e => exact ZJr h
  | infinity g =>
    unfold ZNd X32 ZJd; rw [h, Zd, Zbh Zaf, Zd]
  | nan g f =>
    unfold ZNd X32 ZJd; rw [h, Zd, Zbh Zaf, Zd]
theorem sz_dV {s:Bool} {E M:Nat} (h1:800≤E) (h2:E≤1200) (h3:M < 4503599627370496):sz 300 (dV s E M) := by
  have b:bl (4503599627370496+M)≤53 := ZGb (by rw [show (2:Nat) ^ 53 = 9007199254740992 by decide]; omega); unfold dV; by_cases hE:1075≤E
  · rw [if_pos hE]; have z := ZSl (sI s ((4503599627370496+M) * 2 ^ (E - 1075))); rw [Zsj] at z; have b2:bl ((4503599627370496+M) * 2 ^ (E - 1075))≤53+(E - 1075) := ZGb (by
      have:(4503599627370496+M) * 2 ^ (E - 1075) < 2 ^ 53 * 2 ^ (E - 1075) := Nat.mul_lt_mul_of_pos_right (by rw [show (2:Nat) ^ 53 = 9007199254740992 by decide]; omega) (Nat.two_pow_pos _); rw [← Nat.pow_add] at this; exact this)
    exact ⟨by omega, by omega⟩
  · rw [if_neg hE]; have b3:bl (2 ^ (1075 - E))≤1076 - E := ZGb (Nat.pow_lt_pow_right (by omega) (by omega)); rcases Z4h (sI s (4503599627370496+M)) (2 ^ (1075 - E)) with ⟨z1, z2⟩ | z
    · rw [Zsj] at z1; exact ⟨by omega, by omega⟩
    · exact absurd z (Nat.ne_of_gt (Nat.two_pow_pos _))
theorem Zne (fv:Nat):sz 300 (X32 fv).1 := by
  unfold X32
  cases h:FloatKind.f32.decode fv with
  | number s m e =>
    obtain ⟨h1, h2, h3⟩ := ZLl h; by_cases h0:m = 0
    · simp only [if_pos h0]; exact ZNg.mono (by omega)
    · have hL := Zlj h0 h1 h2 h3; obtain ⟨a, b, c⟩ := d_ok h0 h1 h2 h3; simp only [if_neg h0]; exact sz_dV (by unfold dE; omega) (by unfold dE; omega) c
  | infinity g => exact ZNg.mono (by omega)
  | nan g f => exact ZNg.mono (by omega)
set_option maxRecDepth 100000
abbrev PT := Rat×Rat
abbrev gD (D:List PT) (i:Nat):PT := D.getD i (0, 0)
structure Rise (D:List PT):Prop where
  n0:0 < D.length
  n40:D.length≤60
  time:∀ i j, i < j→j < D.length→(gD D i).1 < (gD D j).1
  low:∀ j, j < D.length→(gD D 0).2≤(gD D j).2
  szs:∀ j, j < D.length→sz 300 (gD D j).1∧sz 300 (gD D j).2
def kR (D:List PT) (t:Rat):Nat := D.findIdx fun p => decide (t≤p.2)
theorem ZVh (D:List PT) (t:Rat):kR D t≤D.length := List.findIdx_le_length
theorem kR_at {D:List PT} {t:Rat} (h:kR D t < D.length):t≤(gD D (kR D t)).2 := by
  have := List.findIdx_getElem (xs := D) (p := fun p => decide (t≤p.2)) (w := (show D.findIdx (fun p => decide (t≤p.2)) < D.length from h)); unfold gD; rw [Z0c h]; exact of_decide_eq_true this
theorem Zbi {D:List PT} {t:Rat} {j:Nat} (h:j < kR D t):(gD D j).2 < t := by
  have hl := ZVh D t; have := List.not_of_lt_findIdx (xs := D) (p := fun p => decide (t≤p.2)) h; unfold gD; rw [Z0c (show j < D.length by omega)]; have h2:¬ t≤(D[j]'(by omega)).2 := by simpa using this
  grind
def Z6j (p q:PT) (t:Rat):Rat := p.1+(t - p.2) / ((q.2 - p.2) / (q.1 - p.1))
def Zbf (D:List PT) (t:Rat):Rat×Int :=
  if kR D t = D.length then (0, 5) else if kR D t = 0 then ((gD D 0).1, 0) else (Z6j (gD D (kR D t - 1)) (gD D (kR D t)) t, 0)
section
variable {p q:PT} {t s:Rat}
theorem div_pos {a b:Rat} (ha:0 < a) (hb:0 < b):0 < a / b := by rw [Rat.div_def]; exact Rat.mul_pos ha (Rat.inv_pos.2 hb)
end
def hiI (D:List PT):Nat→Nat
  | 0 => 0
  | k+1 => if (gD D (hiI D k)).2 < (gD D k).2 then k else hiI D k
theorem ZYg (D:List PT):∀ k, (∀ j, j < k→(gD D j).2≤(gD D (hiI D k)).2)∧(∀ j, j < hiI D k→(gD D j).2 < (gD D (hiI D k)).2)∧(0 < k→hiI D k < k)
  | 0 => ⟨fun j h => by omega, fun j h => by unfold hiI at h; omega, fun h => by omega⟩
  | k+1 => by
    obtain ⟨a, b, c⟩ := ZYg D k
    unfold hiI
    by_cases h:(gD D (hiI D k)).2 < (gD D k).2
    · rw [if_pos h]
      refine ⟨fun j hj => ?_, fun j hj => ?_, fun _ => by omega⟩
      · rcases Nat.lt_or_ge j k with h1 | h1
        · have := a j h1; grind
        · obtain rfl:j = k := by omega
          exact Rat.le_refl
      · have := a j hj; grind
    · rw [if_neg h]
      refine ⟨fun j hj => ?_, b, fun _ => ?_⟩
      · rcases Nat.lt_or_ge j k with h1 | h1
        · exact a j h1
        · obtain rfl:j = k := by omega
          grind
      · rcases Nat.eq_zero_or_pos k with h1 | h1
        · subst h1; show 0 < 1; omega
        · have := c h1; omega
section
variable {D:List PT} (R:Rise D)
include R
theorem ZWi:hiI D D.length < D.length := (ZYg D D.length).2.2 R.n0
end
noncomputable def ZGe (l:(List (Nat×Nat))):Option ((List (Rat×Rat))×Int) :=
 bnd (ifb (decide ((l.length:Int) < (2:Int)))
 (some true)
 (some (decide ((1000:Int) < (l.length:Int)))))
 (fun (h:Bool) =>
 (ifb (h)
 (some ((([]:(List (Rat×Rat))),(4:Int))))
 (bnd (bnd (Zca (fun s:(List (Rat×Rat))×Int×Int=>match s with
 | (c,a,e) =>
 (ifb (decide (a < (l.length:Int)))
 (bnd (idx l a) fun f =>
 bnd (ZNd f.1) fun b =>
 bnd (ZNd f.2) fun d =>
 bnd (ifb (b.2 != ((0:Int)))
 (some true)
 (ifb (d.2 != ((0:Int)))
 (some true)
 (bnd (Z8c b.1) fun i =>
 some (decide (i < (0:Int))))))
 (fun (j:Bool) =>
 (ifb (j)
 (some (.inr ((.inl ((([]:(List (Rat×Rat))),(1:Int)))))))
 (bnd (ifb (decide ((0:Int) < a))
 (bnd (chk .i64 (a - ((1:Int)))) fun k =>
 bnd (idx c k) fun m =>
 bnd (ZOc b.1 m.1) fun n =>
 some (decide (n≤(0:Int))))
 (some false))
 (fun (o:Bool) =>
 (ifb (o)
 (some (.inr ((.inl ((([]:(List (Rat×Rat))),(7:Int)))))))
 (bnd (Zcb 112 (c ++ [(b.1,d.1)])) fun D =>
 bnd (idx ((c ++ [(b.1,d.1)])) e) fun q =>
 bnd (ZOc d.1 q.2) fun r =>
 bnd (ifb (decide (r < (0:Int)))
 (some a)
 (some e))
 (fun (t:Int) =>
 (bnd (chk .i64 (a+((1:Int)))) fun u =>
 some (.inl (((c ++ [(b.1,d.1)]),u,t))))))))))))
 (some (.inr ((.inr ((c,e)))))))) Zwa ((([]:(List (Rat×Rat))),(0:Int),(0:Int))))
 (fun (p:((List (Rat×Rat))×Int) ⊕ ((List (Rat×Rat))×Int))=>match p with
 | .inl ((v,w)) =>
 (some ((.inr ((v,w)))))
 | .inr ((x,y)) =>
 (some ((.inl ((x,y)))))))
 (fun (p:((List (Rat×Rat))×Int) ⊕ ((List (Rat×Rat))×Int))=>match p with
 | .inl ((g,z)) =>
 (bnd (Zub g z ((g.length:Int))) fun A =>
 some ((A,(0:Int))))
 | .inr ((B,C)) =>
 (some ((B,C)))))))
noncomputable def ZCi (p:(Rat×Rat)) (q:(Rat×Rat)):Option (Int) :=
 bnd (ZOc p.2 q.2) fun a =>
 some a
noncomputable def ZPj (l:(List (Rat×Rat))) (g:Unit):Option ((Rat×Rat)) :=
 ifb (decide ((l.length:Int) < (1:Int)))
  (none)
 (bnd (idx l ((0:Int))) fun c =>
 bnd (bnd (Zca (fun s:(Rat×Rat)×Int=>match s with
 | (a,b) =>
 (ifb (decide (b < (l.length:Int)))
 (bnd (idx l b) fun d =>
 bnd (ZCi ((d.1,d.2)) ((a.1,a.2))) fun j =>
 bnd (ifb (decide ((0:Int) < j))
 (bnd (idx l b) fun e =>
 some ((e.1,e.2)))
 (some ((a.1,a.2))))
 (fun (f:(Rat×Rat)) =>
 (bnd (chk .i64 (b+((1:Int)))) fun k =>
 some (.inl (((f.1,f.2),k))))))
 (some (.inr ((a.1,a.2)))))) Zwa (((c.1,c.2),(1:Int))))
 (fun (h:(Rat×Rat)) =>
 (some ((h.1,h.2)))))
 (fun (i:(Rat×Rat)) =>
 (some ((i.1,i.2)))))
noncomputable def ZNh (l:(List (Rat×Rat))):Option ((Rat×Rat)) :=
 bnd (ZPj l (())) fun a =>
 some ((a.1,a.2))
noncomputable def ZTg (p:(Rat×Rat)) (t:Rat):Option (Bool) :=
 bnd (ZOc p.2 t) fun a =>
 some (decide ((0:Int)≤a))
noncomputable def ZZh (l:(List (Rat×Rat))) (g:Rat):Option (Int) :=
 bnd (bnd (Zca (fun s:Int=>match s with
 | a =>
 (ifb (decide (a < (l.length:Int)))
 (bnd (idx l a) fun b =>
 bnd (ZTg ((b.1,b.2)) g) fun c =>
 ifb (c)
 (some (.inr ((.inl a))))
 (bnd (chk .i64 (a+((1:Int)))) fun d =>
 some (.inl d)))
 (some (.inr ((.inr (()))))))) Zwa ((0:Int)))
 (fun (p:(Int) ⊕ (Unit))=>match p with
 | .inl e =>
 (some ((.inr e)))
 | .inr (()) =>
 (some ((.inl (()))))))
 (fun (p:(Unit) ⊕ (Int))=>match p with
 | .inl (()) =>
 (some ((-1:Int)))
 | .inr f =>
 (some f))
noncomputable def ZHe (p:(Rat×Rat)) (q:(Rat×Rat)):Option (Rat) :=
 bnd (bnd (ZKd q.2 p.2) fun a =>
 bnd (ZKd q.1 p.1) fun b =>
 bnd (ZMe a b) fun c =>
 some c.1)
 (fun (d:Rat) =>
 (some d))
noncomputable def ZSf (l:(List (Rat×Rat))) (t:Rat):Option (Rat×Int) :=
 bnd (ZZh l t) fun a =>
 ifb (decide (a < (0:Int)))
 (some (((0:Rat),(5:Int))))
 (ifb (a == ((0:Int)))
 (bnd (idx l ((0:Int))) fun d =>
 some ((d.1,(0:Int))))
 (bnd (chk .i64 (a - ((1:Int)))) fun e =>
 bnd (idx l e) fun b =>
 bnd (bnd (ZKd t b.2) fun f =>
 bnd (idx l a) fun c =>
 bnd (ZHe ((b.1,b.2)) ((c.1,c.2))) fun g =>
 bnd (ZMe f g) fun h =>
 some h.1)
 (fun (i:Rat) =>
 (bnd (Zad b.1 i) fun j =>
 some ((j,(0:Int)))))))
noncomputable def Zek (l:(List (Nat×Nat))) (t:Rat):Option (Rat×Int) :=
 bnd (ZGe l) fun a =>
 ifb (a.2 != ((0:Int)))
 (some (((0:Rat),a.2)))
 (bnd (ZSf a.1 t) fun b =>
 some ((b.1,b.2)))
set_option maxRecDepth 100000
theorem sg4 (x:Rat):Z8c x = some x.num.sign := rfl
theorem lt4 {x y:Rat}:decide ((x - y).num.sign < 0) = decide (x < y) := decide_eq_decide.2 (by rw [ZLf]; constructor <;> intro h <;> grind)
theorem le4 {x y:Rat}:decide ((x - y).num.sign≤0) = decide (x≤y) := decide_eq_decide.2 (by rw [ZSr]; constructor <;> intro h <;> grind)
theorem gt4 {x y:Rat}:decide (0 < (x - y).num.sign) = decide (y < x) := decide_eq_decide.2 (by rw [Z2n]; constructor <;> intro h <;> grind)
theorem ge4 {x y:Rat}:decide (0≤(x - y).num.sign) = decide (y≤x) := decide_eq_decide.2 (by rw [Z3p]; constructor <;> intro h <;> grind)
def loI (Q:List PT):Nat→Nat
  | 0 => 0
  | k+1 => if (gD Q k).2 < (gD Q (loI Q k)).2 then k else loI Q k
theorem ZMf (Q:List PT):∀ k, (∀ j, j < k→(gD Q (loI Q k)).2≤(gD Q j).2)∧(loI Q k≤k)∧(0 < k→loI Q k < k)
  | 0 => ⟨fun j h => by omega, Nat.le_refl _, fun h => by omega⟩
  | k+1 => by
    obtain ⟨a, b, c⟩ := ZMf Q k
    unfold loI
    by_cases h:(gD Q k).2 < (gD Q (loI Q k)).2
    · rw [if_pos h]
      refine ⟨fun j hj => ?_, by omega, fun _ => by omega⟩
      rcases Nat.lt_or_ge j k with h1 | h1
      · have := a j h1; grind
      · obtain rfl:j = k := by omega
        exact Rat.le_refl
    · rw [if_neg h]
      refine ⟨fun j hj => ?_, by omega, fun _ => ?_⟩
      · rcases Nat.lt_or_ge j k with h1 | h1
        · exact a j h1
        · obtain rfl:j = k := by omega
          grind
      · rcases Nat.eq_zero_or_pos k with h1 | h1
        · subst h1; show 0 < 1; omega
        · have := c h1; omega
structure Pts (c:List (Nat×Nat)) (Q:List PT):Prop where
  len:c.length = Q.length
  n2:2≤Q.length
  n40:Q.length≤60
  x1:∀ i, (h:i < c.length)→ZNd c[i].1 = some ((gD Q i).1, 0)
  x2:∀ i, (h:i < c.length)→ZNd c[i].2 = some ((gD Q i).2, 0)
  pos:∀ i, i < Q.length→0≤(gD Q i).1
  time:∀ i j, i < j→j < Q.length→(gD Q i).1 < (gD Q j).1
  szs:∀ i, i < Q.length→sz 300 (gD Q i).1∧sz 300 (gD Q i).2
theorem ZYh (Q:List PT) (k j:Nat):gD (Q.drop k) j = gD Q (k+j) := by
  unfold gD; rw [List.getD_eq_getElem?_getD, List.getD_eq_getElem?_getD, List.getElem?_drop]
section
variable {c:List (Nat×Nat)} {Q:List PT} (H:Pts c Q)
include H
theorem Pts.rise:Rise (Q.drop (loI Q Q.length)) := by
  obtain ⟨a, b, e⟩ := ZMf Q Q.length; have hn := H.n2; have hl := e (by omega); have hd:(Q.drop (loI Q Q.length)).length = Q.length - loI Q Q.length := List.length_drop ..; have h40 := H.n40; refine ⟨by omega, by omega, fun i j hij hj => ?_, fun j hj => ?_, fun j hj => ?_⟩
  · rw [ZYh, ZYh]; exact H.time _ _ (by omega) (by omega)
  · rw [ZYh, ZYh, Nat.add_zero]; exact a _ (by omega)
  · rw [ZYh]; exact H.szs _ (by omega)
theorem rise_eq:ZGe c = some (Q.drop (loI Q Q.length), 0) := by
  have hn := H.n2; have h40 := H.n40; have hc := H.len; unfold ZGe; rw [decide_eq_false (by omega), ZD, decide_eq_false (by omega), Zd, ZD]; refine ZLa (y := .inl (Q, (loI Q Q.length:Int))) (ZLa (y := .inr (Q, (loI Q Q.length:Int))) (Zrc (fun k => (Q.take k, (k:Int), (loI Q k:Int))) c.length rfl (by omega) (fun k hk => ?_) ?_) rfl) ?_
  · have g := Z0c (l := Q) (d := ((0:Rat), (0:Rat))) (show k < Q.length by omega); have e:Q.take k ++ [((gD Q k).1, (gD Q k).2)] = Q.take (k+1) := by
      rw [List.take_succ_eq_append_getElem (by omega)]; show _ ++ [gD Q k] = _; rw [show gD Q k = Q[k] from g]
    have zk := H.szs k (by omega); have pk := H.pos k (by omega); obtain ⟨_, lo1, _⟩ := ZMf Q k; have zl := H.szs (loI Q k) (by omega); have t1:(Q.take (k+1)).length = k+1 := by rw [List.length_take]; omega
    have r1:Zcb 112 (Q.take (k+1)) = some () := by unfold Zcb; rw [if_pos (by omega)]
    have i1:idx (Q.take (k+1)) (loI Q k:Int) = some (gD Q (loI Q k)) := by
      rw [Zla (by omega), List.getElem_take]; exact congrArg some (Z0c (l := Q) (d := ((0:Rat), (0:Rat))) (show loI Q k < Q.length by omega)).symm
    have b0:((0:Int) != 0) = false := rfl; have sn:decide ((gD Q k).1.num.sign < 0) = false := decide_eq_false fun h => by have := ZLf.1 h; grind
    simp only; rw [decide_eq_true (by omega), ZH, Zla hk, Zd, H.x1 k hk, Zd, H.x2 k hk, Zd]; simp only [b0, ZD]; rw [sg4, Zd, sn, Zd, ZD, e]; refine ZLa (y := false) ?_ ?_
    · by_cases h0:0 < k
      · have e1:(k:Int) - 1 = ((k - 1:Nat):Int) := by omega
        have t0:(Q.take k).length = k := by rw [List.length_take]; omega
        have i0:idx (Q.take k) ((k - 1:Nat):Int) = some (gD Q (k - 1)) := by
          rw [Zla (by omega), List.getElem_take]; exact congrArg some (Z0c (l := Q) (d := ((0:Rat), (0:Rat))) (show k - 1 < Q.length by omega)).symm
        have tt := H.time (k - 1) k (by omega) (by omega); rw [decide_eq_true (by omega), ZH, Zea (by omega) (by omega), Zd, e1, i0, Zd, Zae zk.1 (H.szs (k - 1) (by omega)).1 (by omega), Zd, le4, decide_eq_false (by grind)]
      · rw [decide_eq_false (by omega), ZD]
    rw [ZD, r1, Zd, i1, Zd, Zae zk.2 zl.2 (by omega), Zd, lt4]; refine ZLa (y := (loI Q (k+1):Int)) ?_ ?_
    · have el:loI Q (k+1) = if (gD Q k).2 < (gD Q (loI Q k)).2 then k else loI Q k := rfl; rw [el]; by_cases h:(gD Q k).2 < (gD Q (loI Q k)).2
      · rw [decide_eq_true h, ZH, if_pos h]
      · rw [decide_eq_false h, ZD, if_neg h]
    rw [Zea (by omega) (by omega), Zd]; rfl
  · simp only; rw [decide_eq_false (by omega), ZD, hc, List.take_length]
  · obtain ⟨_, lo1, _⟩ := ZMf Q Q.length; have ec:Zub Q (loI Q Q.length:Int) (Q.length:Int) = some (Q.drop (loI Q Q.length)) := by
      unfold Zub; rw [if_pos ⟨by omega, by omega, by omega⟩, Int.toNat_natCast, Int.toNat_natCast, List.take_length]
    simp only; rw [ec, Zd]
end
section
variable {D:List PT} (R:Rise D)
include R
theorem Zed {i:Nat} (h:i < D.length):idx D (i:Int) = some (gD D i) := by
  rw [Zla h]; exact congrArg some (Z0c (l := D) (d := ((0:Rat), (0:Rat))) h).symm
theorem Z0q:ZNh D = some (gD D (hiI D D.length)) := by
  have hn := R.n0; have h40 := R.n40; unfold ZNh ZPj; have i0:idx D (0:Int) = some (gD D 0) := Zed R hn; rw [decide_eq_false (by omega), ZD, i0, Zd]; have h1:hiI D 1 = 0 := by
    show (if (gD D 0).2 < (gD D 0).2 then 0 else 0) = 0; split <;> rfl
  refine ZLa (y := gD D (hiI D D.length)) (ZLa (y := gD D (hiI D D.length)) (ZLa (y := gD D (hiI D D.length)) (Zrc (fun k => (gD D (hiI D (k+1)), ((k+1:Nat):Int))) (D.length - 1) ?_ (by omega) (fun k hk => ?_) ?_) rfl) rfl) rfl
  · show (gD D (hiI D 1), ((1:Nat):Int)) = _; rw [h1]; rfl
  · have hk1:k+1 < D.length := by omega
    have zk := R.szs _ hk1; have hh := (ZYg D (k+1)).2.2 (by omega); have zh := R.szs (hiI D (k+1)) (by omega); have el:hiI D (k+2) = if (gD D (hiI D (k+1))).2 < (gD D (k+1)).2 then k+1 else hiI D (k+1) := rfl; simp only; rw [decide_eq_true (by omega), ZH, Zed R hk1, Zd]; unfold ZCi; rw [Zae zk.2 zh.2 (by omega), Zd, Zd, gt4]; refine ZLa (y := gD D (hiI D (k+2))) ?_ ?_
    · rw [el]; by_cases h:(gD D (hiI D (k+1))).2 < (gD D (k+1)).2
      · rw [decide_eq_true h, ZH, if_pos h, Zd]
      · rw [decide_eq_false h, ZD, if_neg h]
    rw [Zea (by omega) (by omega), Zd]; rfl
  · simp only; rw [decide_eq_false (by omega), ZD, show D.length - 1+1 = D.length by omega]
theorem Z1p {t:Rat} (zt:sz 1000 t):ZZh D t = some (if kR D t = D.length then -1 else (kR D t:Int)) := by
  have h40 := R.n40; have b1:∀ i, (hi:i < D.length)→ZTg ((gD D i).1, (gD D i).2) t = some (decide (t≤(gD D i).2)) := fun i hi => by
    unfold ZTg; rw [Zae (R.szs i hi).2 zt (by omega), Zd, ge4]
  unfold ZZh; by_cases hc:kR D t = D.length
  · rw [if_pos hc]; refine ZLa (y := .inl ()) (ZLa (y := .inr ()) (Zrc (fun k => (k:Int)) D.length rfl (by omega) (fun k hk => ?_) ?_) rfl) rfl
    · have hb := Zbi (D := D) (t := t) (j := k) (by omega); simp only; rw [decide_eq_true (by omega), ZH, Zed R hk, Zd, b1 k hk, Zd, decide_eq_false (by grind), ZD, Zea (by omega) (by omega), Zd]; rfl
    · simp only; rw [decide_eq_false (by omega), ZD]
  · have hl := ZVh D t; have hlt:kR D t < D.length := by omega
    rw [if_neg hc]; refine ZLa (y := .inr (kR D t:Int)) (ZLa (y := .inl (kR D t:Int)) (Zrc (fun k => (k:Int)) (kR D t) rfl (by omega) (fun k hk => ?_) ?_) rfl) rfl
    · have hb := Zbi (D := D) (t := t) (j := k) hk; simp only; rw [decide_eq_true (by omega), ZH, Zed R (by omega), Zd, b1 k (by omega), Zd, decide_eq_false (by grind), ZD, Zea (by omega) (by omega), Zd]; rfl
    · simp only; rw [decide_eq_true (by omega), ZH, Zed R hlt, Zd, b1 _ hlt, Zd, decide_eq_true (kR_at hlt), ZH]
theorem Zim {t:Rat} (zt:sz 1000 t):ZSf D t = some (Zbf D t) := by
  have h40 := R.n40; have h0 := R.n0; unfold ZSf Zbf; rw [Z1p R zt, Zd]; by_cases hc:kR D t = D.length
  · rw [if_pos hc, if_pos hc]; rfl
  · have hl := ZVh D t; have hlt:kR D t < D.length := by omega
    rw [if_neg hc, if_neg hc, decide_eq_false (by omega), ZD]; have at_t := kR_at hlt; have bt:∀ j, j < kR D t→(gD D j).2 < t := fun j hj => Zbi hj; generalize kR D t = k at *; by_cases hk:k = 0
    · subst hk; rw [if_pos rfl, show ((((0:Nat):Int)) == (0:Int)) = true from rfl, ZH, show idx D (0:Int) = some (gD D 0) from Zed R h0, Zd]
    · have e0:(((k:Nat):Int) == (0:Int)) = false := by rw [Bool.eq_false_iff]; intro h; rw [beq_iff_eq] at h; omega
      have e1:(k:Int) - 1 = ((k - 1:Nat):Int) := by omega
      have zp := R.szs (k - 1) (by omega); have zq := R.szs k hlt; have tt := R.time (k - 1) k (by omega) hlt; have vv := bt (k - 1) (by omega); have d1 := Z7b zt zp.2; have d2 := Z7b zq.2 zp.2; have d3 := Z7b zq.1 zp.1; have d4 := Zbg d2 d3; have d5 := Zbg d1 d4; have n3:(gD D k).1 - (gD D (k - 1)).1 ≠ 0 := by grind
      have n4:((gD D k).2 - (gD D (k - 1)).2) / ((gD D k).1 - (gD D (k - 1)).1) ≠ 0 := by
        have := div_pos (show 0 < (gD D k).2 - (gD D (k - 1)).2 by grind) (show 0 < (gD D k).1 - (gD D (k - 1)).1 by grind); grind
      rw [if_neg hk, e0, ZD, Zea (by omega) (by omega), Zd, e1, Zed R (by omega), Zd]; refine ZLa (y := (t - (gD D (k - 1)).2) / (((gD D k).2 - (gD D (k - 1)).2) / ((gD D k).1 - (gD D (k - 1)).1))) ?_ ?_
      · unfold ZHe; rw [Zog zt zp.2 (by omega), Zd, Zed R hlt, Zd, Zog zq.2 zp.2 (by omega), Zd, Zog zq.1 zp.1 (by omega), Zd, ZVk d2 d3 (by omega) n3, Zd, Zd, Zd, ZVk d1 d4 (by omega) n4, Zd]
      · rw [ZIk zp.1 d5 (by omega), Zd]; rfl
theorem Zym {t:Rat} (zt:sz 1000 t):sz 4000 (Zbf D t).1 := by
  have h0 := R.n0; unfold Zbf; by_cases hc:kR D t = D.length
  · rw [if_pos hc]; exact ZNg.mono (by omega)
  · have hl := ZVh D t; rw [if_neg hc]; by_cases hk:kR D t = 0
    · rw [if_pos hk]; exact (R.szs 0 h0).1.mono (by omega)
    · rw [if_neg hk]; have zp := R.szs (kR D t - 1) (by omega); have zq := R.szs (kR D t) (by omega); unfold Z6j; exact (Z9h zp.1 (Zbg (Z7b zt zp.2) (Zbg (Z7b zq.2 zp.2) (Z7b zq.1 zp.1)))).mono (by omega)
end
set_option maxRecDepth 100000
def cf (c:Nat→Int):Nat→Nat→Int
  | _, 0 => 0
  | i, m+1 => if c i ≠ 0 then c i else cf c (i+1) m
theorem Zvo {body:Int→Option (Int ⊕ (Int ⊕ Unit))} (c:Nat→Int) (n:Nat) (hn:n < 2 ^ 62) (h1:∀ i, i < n→body (i:Int) = if c i ≠ 0 then some (.inr (.inl (c i))) else some (.inl ((i:Int)+1))) (he:body (n:Int) = some (.inr (.inr ()))) :
    Zca body Zwa 0 = some (if cf c 0 n ≠ 0 then .inl (cf c 0 n) else .inr ()) := by
  have key:∀ m F i, i+m = n→m < F→Zca body F (i:Int) = some (if cf c i m ≠ 0 then .inl (cf c i m) else .inr ()) := by
    intro m
    induction m with
    | zero =>
      intro F i hi hF; obtain ⟨F, rfl⟩:∃ g, F = g+1 := ⟨F - 1, by omega⟩; obtain rfl:i = n := by omega
      unfold Zca; rw [he, Zd]; rfl
    | succ m ih =>
      intro F i hi hF; obtain ⟨F, rfl⟩:∃ g, F = g+1 := ⟨F - 1, by omega⟩; unfold Zca; rw [h1 i (by omega)]; unfold cf; by_cases h:c i ≠ 0
      · rw [if_pos h, Zd, if_pos h, if_pos h]
      · rw [if_neg h, Zd, if_neg h]; exact ih F (i+1) (by omega) (by omega)
  exact key n Zwa 0 (by omega) (Z1a (by omega))
theorem Zrm {c:Nat→Int}:∀ m i, cf c i m = 0→∀ j, j < m→c (i+j) = 0
  | 0, _, _, j, h => by omega
  | m+1, i, h0, j, h => by
    unfold cf at h0
    by_cases hc:c i ≠ 0
    · rw [if_pos hc] at h0; exact absurd h0 hc
    · rw [if_neg hc] at h0
      rcases Nat.eq_zero_or_pos j with h1 | h1
      · subst h1; exact Decidable.not_not.1 hc
      · have := Zrm m (i+1) h0 (j - 1) (by omega)
        rw [show i+1+(j - 1) = i+j by omega] at this
        exact this
theorem ZSn {c:Nat→Int}:∀ m i, cf c i m ≠ 0→∃ b, b < m∧(∀ j, j < b→c (i+j) = 0)∧c (i+b) = cf c i m
  | 0, _, h => absurd rfl h
  | m+1, i, h => by
    unfold cf at h ⊢
    by_cases hc:c i ≠ 0
    · rw [if_pos hc]
      exact ⟨0, by omega, fun j h => by omega, rfl⟩
    · rw [if_neg hc] at h ⊢
      obtain ⟨b, h1, h2, h3⟩ := ZSn m (i+1) h
      refine ⟨b+1, by omega, fun j hj => ?_, by rw [show i+(b+1) = i+1+b by omega]; exact h3⟩
      rcases Nat.eq_zero_or_pos j with e | e
      · subst e; exact Decidable.not_not.1 hc
      · have := h2 (j - 1) (by omega)
        rwa [show i+1+(j - 1) = i+j by omega] at this
abbrev gB (l:List (Nat×Nat)) (i:Nat):Nat×Nat := l.getD i (0, 0)
def pv (p:Nat×Nat):PT := ((X32 p.1).1, (X32 p.2).1)
def Z2e (p:Nat×Nat):Prop := (X32 p.1).2 ≠ 0 ∨ (X32 p.2).2 ≠ 0 ∨ (X32 p.1).1 < 0
instance (p:Nat×Nat):Decidable (Z2e p) := inferInstanceAs (Decidable (_ ∨ _))
def ckC (l:List (Nat×Nat)) (i:Nat):Int := if Z2e (gB l i) then 1 else if 0 < i∧(pv (gB l i)).1≤(pv (gB l (i - 1))).1 then 7 else 0
def Zwc (l:List (Nat×Nat)):Int := if l.length < 2 ∨ 1000 < l.length then 4 else cf (ckC l) 0 l.length
section
variable {l:List (Nat×Nat)}
theorem ZDd {i:Nat} (h:i < l.length):gD (l.map pv) i = pv (gB l i) := by
  unfold gD gB; rw [Z0c (by simpa using h), Z0c h, List.getElem_map]
theorem ZOf {i:Nat} (h:i < l.length):l[i] = gB l i := (Z0c (l := l) (d := ((0:Nat), (0:Nat))) h).symm
theorem Zml {i:Nat} (h:ckC l i = 0):¬ Z2e (gB l i)∧(0 < i→(pv (gB l (i - 1))).1 < (pv (gB l i)).1) := by
  unfold ckC at h; split at h
  · cases h
  · rename_i h1; split at h
    · cases h
    · rename_i h2; refine ⟨h1, fun hi => ?_⟩; have:¬ (pv (gB l i)).1≤(pv (gB l (i - 1))).1 := fun h3 => h2 ⟨hi, h3⟩; grind
theorem ZHl (h:Zwc l = 0):2≤l.length∧l.length≤1000∧∀ i, i < l.length→ckC l i = 0 := by
  unfold Zwc at h; split at h
  · cases h
  · refine ⟨by omega, by omega, fun i hi => ?_⟩; have := Zrm _ _ h i hi
    rwa [Nat.zero_add] at this
theorem Z8l (h:Zwc l = 0) {i:Nat}:∀ j, i < j→j < l.length→(pv (gB l i)).1 < (pv (gB l j)).1
  | 0, h1, _ => by omega
  | j+1, h1, h2 => by
    have c := (Zml ((ZHl h).2.2 (j+1) h2)).2 (by omega)
    rw [Nat.add_sub_cancel] at c
    rcases Nat.lt_or_ge i j with h3 | h3
    · have := Z8l h j h3 (by omega); grind
    · obtain rfl:i = j := by omega
      exact c
theorem ZRm {fv:Nat} (h:(X32 fv).2 = 0):X32 fv = ((X32 fv).1, 0) := by rw [← h]
theorem pts_of (h:Zwc l = 0) (h60:l.length≤60):Pts l (l.map pv) := by
  obtain ⟨n2, n3, hc⟩ := ZHl h; have hb:∀ i, i < l.length→¬ Z2e (gB l i) := fun i hi => (Zml (hc i hi)).1; refine ⟨by simp, by simpa using n2, by simpa using h60, fun i hi => ?_, fun i hi => ?_, fun i hi => ?_, fun i j hij hj => ?_, fun i hi => ?_⟩
  · rw [ZDd hi, ZOf hi, ZBg]; exact congrArg some (ZRm (Decidable.not_not.1 fun k => hb i hi (.inl k)))
  · rw [ZDd hi, ZOf hi, ZBg]; exact congrArg some (ZRm (Decidable.not_not.1 fun k => hb i hi (.inr (.inl k))))
  · have hi':i < l.length := by simpa using hi
    rw [ZDd hi']; have:¬ (pv (gB l i)).1 < 0 := fun k => hb i hi' (.inr (.inr k)); grind
  · have hj':j < l.length := by simpa using hj
    rw [ZDd (by omega), ZDd hj']; exact Z8l h j hij hj'
  · have hi':i < l.length := by simpa using hi
    rw [ZDd hi']; exact ⟨Zne _, Zne _⟩
theorem ZBr (h:Zwc l ≠ 0) (h60:l.length≤60):ZGe l = some ([], Zwc l) := by
  unfold ZGe; unfold Zwc at h ⊢; by_cases n2:l.length < 2
  · rw [decide_eq_true (by omega), ZH, Zd, ZH, if_pos (.inl n2)]
  have n4:¬ (l.length < 2 ∨ 1000 < l.length) := by omega
  rw [if_neg n4] at h ⊢; rw [decide_eq_false (by omega), ZD, decide_eq_false (by omega), Zd, ZD]; obtain ⟨b, hb, hz, hcb⟩ := ZSn _ _ h; rw [Nat.zero_add] at hcb; rw [← hcb]; have hcb0:ckC l b ≠ 0 := by rw [hcb]; exact h
  have hk0:∀ k, k < b→ckC l k = 0 := fun k hk => by have := hz k hk; rwa [Nat.zero_add] at this
  have b0:((0:Int) != 0) = false := rfl; have hlen:(l.map pv).length = l.length := List.length_map ..; have sg5:∀ x:Rat, Z8c x = some x.num.sign := fun _ => rfl; have test:∀ p:Nat×Nat, (ifb ((X32 p.1).2 != 0) (some true) (ifb ((X32 p.2).2 != 0) (some true) (bnd (Z8c (X32 p.1).1) fun y => some (decide (y < 0))))) = some (decide (Z2e p)) := fun p => by
    by_cases k1:(X32 p.1).2 = 0
    · rw [show ((X32 p.1).2 != 0) = false by simpa using k1, ZD]; by_cases k2:(X32 p.2).2 = 0
      · rw [show ((X32 p.2).2 != 0) = false by simpa using k2, ZD, sg5, Zd]; exact congrArg some (decide_eq_decide.2 ⟨fun k => .inr (.inr (ZLf.1 k)), fun k => ZLf.2 (by rcases k with k | k | k; exact absurd k1 k; exact absurd k2 k; exact k)⟩)
      · rw [show ((X32 p.2).2 != 0) = true by simpa using k2, ZH, decide_eq_true (.inr (.inl k2))]
    · rw [show ((X32 p.1).2 != 0) = true by simpa using k1, ZH, decide_eq_true (.inl k1)]
  have prev:∀ k, k < l.length→(ifb (decide ((0:Int) < (k:Int))) (bnd (chk .i64 ((k:Int) - 1)) fun y322 => bnd (idx ((l.map pv).take k) y322) fun y324 => bnd (ZOc (X32 (gB l k).1).1 y324.1) fun y340 => some (decide (y340≤(0:Int)))) (some false)) = some (decide (0 < k∧(pv (gB l k)).1≤(pv (gB l (k - 1))).1)) := fun k hk => by
    by_cases h0:0 < k
    · have e1:(k:Int) - 1 = ((k - 1:Nat):Int) := by omega
      have t0:((l.map pv).take k).length = k := by rw [List.length_take]; omega
      have i0:idx ((l.map pv).take k) ((k - 1:Nat):Int) = some (pv (gB l (k - 1))) := by
        rw [Zla (by omega), List.getElem_take, List.getElem_map, ZOf (by omega)]
      rw [decide_eq_true (by omega), ZH, Zea (by omega) (by omega), Zd, e1, i0, Zd, Zae (Zne _) (show sz 300 (pv (gB l (k - 1))).1 from Zne _) (by omega), Zd, le4]; exact congrArg some (decide_eq_decide.2 ⟨fun k => ⟨h0, k⟩, fun k => k.2⟩)
    · rw [decide_eq_false (by omega), ZD, decide_eq_false (fun k => h0 k.1)]
  refine ZLa (y := .inr ([], ckC l b)) (ZLa (y := .inl ([], ckC l b)) (Zrc (fun k => ((l.map pv).take k, (k:Int), (loI (l.map pv) k:Int))) b rfl (by omega) (fun k hk => ?_) ?_) rfl) rfl
  · obtain ⟨c1, c2⟩ := Zml (hk0 k hk); have hkl:k < l.length := by omega
    have e:(l.map pv).take k ++ [((X32 (gB l k).1).1, (X32 (gB l k).2).1)] = (l.map pv).take (k+1) := by
      rw [List.take_succ_eq_append_getElem (by omega), List.getElem_map, ZOf hkl]; rfl
    obtain ⟨_, lo1, _⟩ := ZMf (l.map pv) k; have t1:((l.map pv).take (k+1)).length = k+1 := by rw [List.length_take]; omega
    have r1:Zcb 112 ((l.map pv).take (k+1)) = some () := by unfold Zcb; rw [if_pos (by omega)]
    have i1:idx ((l.map pv).take (k+1)) (loI (l.map pv) k:Int) = some (gD (l.map pv) (loI (l.map pv) k)) := by
      rw [Zla (by omega), List.getElem_take]; exact congrArg some (Z0c (l := l.map pv) (d := ((0:Rat), (0:Rat))) (show loI (l.map pv) k < (l.map pv).length by omega)).symm
    have zl:sz 300 (gD (l.map pv) (loI (l.map pv) k)).2 := by rw [ZDd (by omega)]; exact Zne _
    simp only; rw [decide_eq_true (by omega), ZH, Zla hkl, ZOf hkl, Zd, ZBg, Zd, ZBg, Zd, test, decide_eq_false c1, Zd, ZD, prev k hkl, Zd, decide_eq_false (fun hh => by have := c2 hh.1; have := hh.2; grind), ZD, e, r1, Zd, i1, Zd, Zae (Zne _) zl (by omega), Zd, lt4]; refine ZLa (y := (loI (l.map pv) (k+1):Int)) ?_ ?_
    · have el:loI (l.map pv) (k+1) = if (gD (l.map pv) k).2 < (gD (l.map pv) (loI (l.map pv) k)).2 then k else loI (l.map pv) k := rfl; rw [el, ZDd hkl]; by_cases hh:(pv (gB l k)).2 < (gD (l.map pv) (loI (l.map pv) k)).2
      · rw [show decide ((X32 (gB l k).2).1 < (gD (l.map pv) (loI (l.map pv) k)).2) = true from decide_eq_true hh, ZH, if_pos hh]
      · rw [show decide ((X32 (gB l k).2).1 < (gD (l.map pv) (loI (l.map pv) k)).2) = false from decide_eq_false hh, ZD, if_neg hh]
    rw [Zea (by omega) (by omega), Zd]; rfl
  · simp only; rw [decide_eq_true (by omega), ZH, Zla hb, ZOf hb, Zd, ZBg, Zd, ZBg, Zd, test, Zd]; unfold ckC at hcb0 ⊢; by_cases c1:Z2e (gB l b)
    · rw [decide_eq_true c1, ZH, if_pos c1]
    · rw [if_neg c1] at hcb0 ⊢; rw [decide_eq_false c1, ZD, prev b hb, Zd]; by_cases c2:0 < b∧(pv (gB l b)).1≤(pv (gB l (b - 1))).1
      · rw [decide_eq_true c2, ZH, if_pos c2]
      · rw [if_neg c2] at hcb0; exact absurd rfl hcb0
end
noncomputable def ZCd (fv:Nat):Option (Rat×Int) :=
 bnd (ZKa .u64 ((fv:Int)) ((52:Int))) fun a =>
 ifb ((IntKind.i64.wrap (ZMa .u64 a ((2047:Int)))) == ((2047:Int)))
 (bnd (Z9b ((0:Int))) fun d =>
 some ((d,(1:Int))))
 (bnd (ifb (decide ((0:Int) < IntKind.i64.wrap (ZMa .u64 a ((2047:Int)))))
 (some ((IntKind.i64.wrap (ZMa .u64 a ((2047:Int))),IntKind.u64.wrap ((ZMa .u64 ((fv:Int)) ((4503599627370495:Int)))+((4503599627370496:Int))))))
 (some (((1:Int),ZMa .u64 ((fv:Int)) ((4503599627370495:Int))))))
 (fun (p:Int×Int)=>match p with
 | (b,c) =>
 (ifb (decide ((1075:Int)≤b))
 (bnd (ZKa .u64 ((fv:Int)) ((63:Int))) fun e =>
 bnd (ZYc c) fun f =>
 bnd (chk .i64 (b - ((1075:Int)))) fun g =>
 bnd (ZLc f g) fun h =>
 bnd (ZDc ([(1:Int)])) fun i =>
 bnd (Zyb (e == ((1:Int))) h i) fun j =>
 some ((j,(0:Int))))
 (bnd (ZKa .u64 ((fv:Int)) ((63:Int))) fun k =>
 bnd (ZYc c) fun l =>
 bnd (chk .i64 (((1075:Int)) - b)) fun m =>
 bnd (ZDc ([(1:Int)])) fun n =>
 bnd (ZLc n m) fun o =>
 bnd (Zyb (k == ((1:Int))) l o) fun q =>
 some ((q,(0:Int)))))))
noncomputable def ZFe (fv:Nat):Option (Rat×Bool) :=
 bnd (ZJd fv) fun b =>
 bnd (ZCd b) fun a =>
 some ((a.1,a.2 == ((0:Int))))
set_option maxRecDepth 100000
theorem Z3q {r:Nat} (h:ZKe r):∃ s M, M < 4503599627370496∧r = dW s 2047 M := by
  obtain ⟨h1, h2⟩ := h; refine ⟨decide (9223372036854775808≤r), r % 9223372036854775808 - 9218868437227405312, by omega, ?_⟩; unfold dW; by_cases hs:9223372036854775808≤r
  · rw [decide_eq_true hs, if_pos rfl]; omega
  · rw [decide_eq_false hs, if_neg (by decide)]; omega
theorem Z0p (g:Bool):FloatKind.f64.encode (.infinity g) = dW g 2047 0 := by cases g <;> decide
theorem ZWl (s:Bool) {M:Nat} (h3:M < 4503599627370496):ZCd (dW s 2047 M) = some (0, 1) := by
  obtain ⟨q, q1, q2, _⟩ := ZCj (s := s) (E := 2047) (M := M) (by omega) h3; have w:(IntKind.i64.wrap ((2047:Nat):Int) == (2047:Int)) = true := by decide
  have r0:Z9b 0 = some 0 := rfl; unfold ZCd; rw [q1, Zd, q2, w, ZH, r0, Zd]
theorem Zkh {r:Nat} (h:ZKe r):ZCd r = some (0, 1) := by
  obtain ⟨s, M, h3, rfl⟩ := Z3q h; exact ZWl s h3
theorem ZUo {y r:Nat} {z:Rat×Int} (h:as64 y r) (e:ZCd y = some z):ZCd r = some z := by
  rcases h with rfl | ⟨rfl, h | ⟨g, rfl⟩⟩
  · exact e
  · rw [Zkh h, ← e, Zkh Zaf]
  · rw [Z0p, ZWl g (by omega), ← e, Zkh Zaf]
noncomputable def Z9a (fv:Nat):Option (Rat) :=
 bnd (ZFe fv) fun a =>
 some a.1
set_option maxRecDepth 100000
section
variable {s:Bool} {E M:Nat} (h1:1≤E) (h2:E≤2046) (h3:M < 4503599627370496)
include h1 h2 h3
theorem d_sign:ZKa .u64 ((dW s E M:Nat):Int) 63 = some (if s then 1 else 0) := by
  have hl := Zrf (s := s) (E := E) (M := M) (by omega) h3; unfold ZKa; have e:(dW s E M:Int) / 9223372036854775808 = if s then 1 else 0 := by
    unfold dW
    cases s
    · simp only [Bool.false_eq_true, if_false]; omega
    · simp only [if_true]; omega
  rw [if_neg (by omega), show min (63:Int).toNat IntKind.u64.bits = 63 by decide, Int.fdiv_eq_ediv_of_nonneg _ (by decide), show (2:Int) ^ 63 = 9223372036854775808 by decide, e]
theorem d_frac:ZMa .u64 ((dW s E M:Nat):Int) 4503599627370495 = (M:Int) := by
  have hl := Zrf (s := s) (E := E) (M := M) (by omega) h3; unfold ZMa; have hq:dW s E M % 2 ^ 52 = M := by
    rw [show (2:Nat) ^ 52 = 4503599627370496 by decide]; unfold dW
    cases s
    · simp only [Bool.false_eq_true, if_false]; omega
    · simp only [if_true]; omega
  generalize dW s E M = q at *; have h1:(BitVec.ofInt IntKind.u64.bits (q:Int) &&& BitVec.ofInt IntKind.u64.bits 4503599627370495).toNat = M := by
    rw [BitVec.toNat_and, BitVec.toNat_ofInt, BitVec.toNat_ofInt]; show ((q:Int) % 18446744073709551616).toNat &&& (2 ^ 52 - 1) = M; rw [show ((q:Int) % 18446744073709551616).toNat = q by omega, Z6g, hq]
  rw [h1]; exact Zgc (ZFc.2 ⟨by omega, by omega⟩)
theorem ZKo:ZCd (dW s E M) = some (dV s E M, 0) := by
  obtain ⟨q, q1, q2, _⟩ := ZCj (s := s) (E := E) (M := M) (by omega) h3; have w:IntKind.i64.wrap (E:Int) = E := Zgc (ZDb.2 ⟨by omega, by omega⟩); have ne:((E:Int) == (2047:Int)) = false := by rw [beq_eq_false_iff_ne]; omega
  have w2:IntKind.u64.wrap ((M:Int)+4503599627370496) = ((4503599627370496+M:Nat):Int) := by
    rw [Zgc (ZFc.2 ⟨by omega, by omega⟩)]; omega
  unfold ZCd; rw [q1, Zd, q2, w, ne, ZD, show decide ((0:Int) < (E:Int)) = true from decide_eq_true (by omega), ZH, d_frac h1 h2 h3, w2, Zd]; simp only; rw [d_sign h1 h2 h3]; have hb:bl (4503599627370496+M)≤53 := ZGb (by rw [show (2:Nat) ^ 53 = 9007199254740992 by decide]; omega); have sb:((if s then (1:Int) else 0) == 1) = s := by cases s <;> rfl
  have rn:ZYc ((4503599627370496+M:Nat):Int) = some (4503599627370496+M) := rfl; unfold dV; generalize 4503599627370496+M = n at *; by_cases hE:1075≤E
  · have k1:((E:Int) - 1075).toNat = E - 1075 := by omega
    have l1:ZLc n ((E:Int) - 1075) = some (n * 2 ^ (E - 1075)) := by
      unfold ZLc; rw [if_pos ⟨Z4b (by omega), by omega, by omega⟩, k1]
    have hb2:bl (n * 2 ^ (E - 1075))≤2000 := by
      have := ZSb n (2 ^ (E - 1075)); have h4:bl (2 ^ (E - 1075))≤E - 1075+1 := ZGb (Nat.pow_lt_pow_right (by omega) (by omega)); omega
    have f1:Zyb s (n * 2 ^ (E - 1075)) 1 = some (mkRat (sI s (n * 2 ^ (E - 1075))) 1) := by
      unfold Zyb; rw [if_pos ⟨ZWc (by omega), ZWc (by decide), by omega⟩]; rfl
    rw [show decide ((1075:Int)≤(E:Int)) = true from decide_eq_true (by omega), ZH, Zd, rn, Zd, Zea (by omega) (by omega), Zd, l1, Zd, Zth, Zd, sb, f1, Zd, if_pos hE, mkRat_one]
  · have k1:(1075:Int) - (E:Int) = ((1075 - E:Nat):Int) := by omega
    have l1:ZLc 1 ((1075 - E:Nat):Int) = some (2 ^ (1075 - E)) := by
      unfold ZLc; rw [if_pos ⟨Z4b (by decide), by omega, by omega⟩, Int.toNat_natCast, Nat.one_mul]
    have hb2:bl (2 ^ (1075 - E))≤2000 := Nat.le_trans (ZGb (Nat.pow_lt_pow_right (a := 2) (n := 1076 - E) (by omega) (by omega))) (by omega); have hz:2 ^ (1075 - E) ≠ 0 := Nat.ne_of_gt (Nat.two_pow_pos _); have f1:Zyb s n (2 ^ (1075 - E)) = some (mkRat (sI s n) (2 ^ (1075 - E))) := by
      unfold Zyb; rw [if_pos ⟨ZWc (by omega), ZWc (by omega), hz⟩]; rfl
    rw [show decide ((1075:Int)≤(E:Int)) = false from decide_eq_false (by omega), ZD, Zd, rn, Zd, Zea (by omega) (by omega), Zd, k1, Zth, Zd, l1, Zd, sb, f1, Zd, if_neg hE]
end
theorem rfloat0 (s:Bool):ZCd (if s then 9223372036854775808 else 0) = some (0, 0) := by
  cases s <;> decide +kernel
theorem ZYk (fv:Nat):ZFe fv = some ((X32 fv).1, (X32 fv).2 == 0) := by
  have o0:((0:Int) == 0) = true := rfl; have o1:((1:Int) == 0) = false := rfl
  cases h:FloatKind.f32.decode fv with
  | number s m e =>
    obtain ⟨h1, h2, h3⟩ := ZLl h; unfold ZFe X32; rw [h, Zbl h]; by_cases h0:m = 0
    · subst h0; rw [Zfn h, Zd, rfloat0, Zd]; simp only [if_true]
    · obtain ⟨a, b, c⟩ := d_ok h0 h1 h2 h3; rw [ZAn h0 h1 h2 h3 h, Zd, ZKo a b c, Zd]; simp only [if_neg h0]
  | infinity g =>
    unfold ZFe X32 ZJd; rw [h, Zd, Zkh Zaf, Zd]
  | nan g f =>
    unfold ZFe X32 ZJd; rw [h, Zd, Zkh Zaf, Zd]
theorem Zzk (fv:Nat):Z9a fv = some (X32 fv).1 := by
  unfold Z9a; rw [ZYk, Zd]
noncomputable def Zbk (r:(Rat×(List (Rat×Rat)))):Option (Int) :=
 ifb (decide ((10:Int) < (r.2.length:Int)))
 (some ((4:Int)))
 (bnd (Z8c r.1) fun c =>
 ifb (decide (c < (0:Int)))
 (some ((1:Int)))
 (bnd (bnd (Zca (fun s:Int=>match s with
 | a =>
 (ifb (decide (a < (r.2.length:Int)))
 (bnd (idx r.2 a) fun b =>
 bnd (bnd (Z8c b.1) fun d =>
 ifb (decide (d < (0:Int)))
 (some true)
 (bnd (Z8c b.2) fun e =>
 some (decide (e≤(0:Int)))))
 (fun (f:Bool) =>
 (ifb (f)
 (some (.inr ((.inl ((1:Int))))))
 (bnd (ifb (decide ((0:Int) < a))
 (bnd (chk .i64 (a - ((1:Int)))) fun g =>
 bnd (idx r.2 g) fun h =>
 bnd (ZOc b.2 h.2) fun i =>
 some (decide (i≤(0:Int))))
 (some false))
 (fun (j:Bool) =>
 (ifb (j)
 (some (.inr ((.inl ((7:Int))))))
 (bnd (chk .i64 (a+((1:Int)))) fun k =>
 some (.inl k))))))))
 (some (.inr ((.inr (()))))))) Zwa ((0:Int)))
 (fun (p:(Int) ⊕ (Unit))=>match p with
 | .inl l =>
 (some ((.inr l)))
 | .inr (()) =>
 (some ((.inl (()))))))
 (fun (p:(Unit) ⊕ (Int))=>match p with
 | .inl (()) =>
 (some ((0:Int)))
 | .inr m =>
 (some m))))
noncomputable def Zul (t:Rat) (fw:Rat):Option (Rat×Rat) :=
 bnd (ZZd fw t) fun a =>
 bnd (ZZd a a) fun b =>
 bnd (bnd (ZLd ((1:Int))) fun d =>
 bnd (Zad b d) fun e =>
 some e)
 (fun (c:Rat) =>
 (bnd (ZMe b c) fun f =>
 bnd (ZMe a c) fun g =>
 some ((f.1,g.1))))
noncomputable def Zxk (r:(Rat×(List (Rat×Rat)))) (fw:Rat):Option (Rat×Rat) :=
 bnd (bnd (Zca (fun s:Rat×Rat×Int=>match s with
 | (c,d,a) =>
 (ifb (decide (a < (r.2.length:Int)))
 (bnd (idx r.2 a) fun b =>
 bnd (Zul b.2 fw) fun e =>
 bnd (ZZd e.1 b.1) fun f =>
 bnd (Zad c f) fun g =>
 bnd (ZZd e.2 b.1) fun h =>
 bnd (Zad d h) fun i =>
 bnd (chk .i64 (a+((1:Int)))) fun j =>
 some (.inl ((g,i,j))))
 (some (.inr ((c,d)))))) Zwa ((r.1,(0:Rat),(0:Int))))
 (fun (p:Rat×Rat)=>match p with
 | (k,l) =>
 (some ((k,l)))))
 (fun (p:Rat×Rat)=>match p with
 | (m,n) =>
 (some ((m,n))))
noncomputable def ZMl (r:(Rat×(List (Rat×Rat)))) (fw:Rat):Option (Rat×Rat×Int) :=
 bnd (Zbk ((r.1,r.2))) fun a =>
 ifb (a != ((0:Int)))
 (some (((0:Rat),(0:Rat),a)))
 (bnd (Z8c fw) fun c =>
 ifb (decide (c < (0:Int)))
 (some (((0:Rat),(0:Rat),(1:Int))))
 (bnd (Zxk ((r.1,r.2)) fw) fun b =>
 some ((b.1,b.2,(0:Int)))))
noncomputable def Z4f  : Option (Bool) :=
 bnd (ZLd ((1:Int))) fun c =>
 bnd (ZLd ((2:Int))) fun d =>
 bnd (ZLd ((1:Int))) fun e =>
 bnd (ZLd ((1:Int))) fun f =>
 bnd (ZMl ((c,[(d,e)])) f) fun a =>
 bnd (ZLd ((4:Int))) fun g =>
 bnd (Zek ([((0:Nat),(1084227584:Nat)),((1092616192:Nat),(1073741824:Nat)),((1101004800:Nat),(1073741824:Nat)),((1106247680:Nat),(1092616192:Nat))]) g) fun b =>
 bnd (ifb (a.2.2 == ((0:Int)))
 (ifb (b.2 == ((0:Int)))
 (bnd (ZUd a.1) fun h =>
 ifb (h == (([50]:List UInt8)))
 (bnd (ZUd a.2.1) fun i =>
 ifb (i == (([49]:List UInt8)))
 (bnd (ZUd b.1) fun j =>
 some (j == (([52,53,47,50]:List UInt8))))
 (some false))
 (some false))
 (some false))
 (some false))
 (fun (k:Bool) =>
 (some k))
set_option maxRecDepth 100000 in
theorem Zgq:Z4f = some true := by
  unfold Z4f; rw [ZOo]; decide +kernel
noncomputable def Zhh (l:(List (Rat×Rat))):Option (Rat×Int) :=
 ifb (decide ((l.length:Int) < (2:Int)))
 (some (((0:Rat),(5:Int))))
 (bnd (bnd (idx l ((0:Int))) fun c =>
 bnd (idx l ((1:Int))) fun d =>
 bnd (ZHe ((c.1,c.2)) ((d.1,d.2))) fun h =>
 some h)
 (fun (i:Rat) =>
 (bnd (bnd (Zca (fun s:Rat×Int=>match s with
 | (b,a) =>
 (ifb (decide (a < (l.length:Int)))
 (bnd (bnd (chk .i64 (a - ((1:Int)))) fun j =>
 bnd (idx l j) fun e =>
 bnd (idx l a) fun f =>
 bnd (ZHe ((e.1,e.2)) ((f.1,f.2))) fun k =>
 some k)
 (fun (g:Rat) =>
 (bnd (ZOc g b) fun m =>
 bnd (ifb (decide ((0:Int) < m))
 (some g)
 (some b))
 (fun (n:Rat) =>
 (bnd (chk .i64 (a+((1:Int)))) fun o =>
 some (.inl ((n,o))))))))
 (some (.inr b)))) Zwa ((i,(2:Int))))
 (fun (p:Rat) =>
 (some p)))
 (fun (q:Rat) =>
 (some ((q,(0:Int))))))))
noncomputable def Z4g (l:(List (Nat×Nat))):Option ((List (Nat×Nat))) :=
 bnd (mk 8 ((l.length:Int)) ((l.length:Int))) fun g =>
 bnd (bnd (Zca (fun s:(List (Nat×Nat))×Int=>match s with
 | (b,a) =>
 (ifb (decide (a < (l.length:Int)))
 (bnd (idx l a) fun c =>
 bnd (idx b a) fun h =>
 bnd (chk .i64 (a+((1:Int)))) fun d =>
 some (.inl (((b.set (a).toNat ((c.1,c.2))),d))))
 (some (.inr b)))) Zwa (((List.replicate ((l.length:Int)).toNat (((0:Nat),(0:Nat)))),(0:Int))))
 (fun (e:(List (Nat×Nat))) =>
 (some e)))
 (fun (f:(List (Nat×Nat))) =>
 (some f))
noncomputable def Z1d (l:(List (Nat×Nat))):Option ((List (Nat×Nat))) :=
 bnd (bnd (Zca (fun s:Int×Int=>match s with
 | (b,a) =>
 (ifb (decide (a < (l.length:Int)))
 (bnd (idx l a) fun c =>
 bnd (Z9a c.2) fun d =>
 bnd (idx l b) fun e =>
 bnd (Z9a e.2) fun f =>
 bnd (Z3c d f) fun g =>
 bnd (ifb (decide (g < (0:Int)))
 (some a)
 (some b))
 (fun (h:Int) =>
 (bnd (chk .i64 (a+((1:Int)))) fun i =>
 some (.inl ((h,i))))))
 (some (.inr b)))) Zwa (((0:Int),(1:Int))))
 (fun (j:Int) =>
 (some j)))
 (fun (k:Int) =>
 (bnd (Zub l k ((l.length:Int))) fun m =>
 some m))
noncomputable def ZWh (l:(List (Nat×Nat))):Option ((Rat×Rat×Rat×Rat)) :=
 bnd (Z1d l) fun a =>
 bnd (bnd (Zca (fun s:Int×Int=>match s with
 | (c,b) =>
 (ifb (decide (b < (a.length:Int)))
 (bnd (idx a b) fun e =>
 bnd (Z9a e.2) fun f =>
 bnd (idx a c) fun g =>
 bnd (Z9a g.2) fun h =>
 bnd (Z3c f h) fun i =>
 bnd (ifb (decide ((0:Int) < i))
 (some b)
 (some c))
 (fun (j:Int) =>
 (bnd (chk .i64 (b+((1:Int)))) fun k =>
 some (.inl ((j,k))))))
 (some (.inr c)))) Zwa (((0:Int),(1:Int))))
 (fun (m:Int) =>
 (some m)))
 (fun (d:Int) =>
 (bnd (idx a ((0:Int))) fun n =>
 bnd (Z9a n.2) fun o =>
 bnd (idx a ((0:Int))) fun p =>
 bnd (Z9a p.1) fun q =>
 bnd (idx a d) fun r =>
 bnd (Z9a r.2) fun t =>
 bnd (idx a d) fun u =>
 bnd (Z9a u.1) fun v =>
 some ((o,q,t,v))))
noncomputable def ZMg (l:(List (Nat×Nat))) (t:Rat):Option (Rat×Int) :=
 bnd (Z1d l) fun b =>
 bnd (bnd (Zca (fun s:Int=>match s with
 | a =>
 (ifb (decide (a < (b.length:Int)))
 (bnd (idx b a) fun f =>
 bnd (Z9a f.2) fun c =>
 bnd (Z3c c t) fun g =>
 ifb (decide (g < (0:Int)))
 (bnd (chk .i64 (a+((1:Int)))) fun h =>
 some (.inl h))
 (ifb (a == ((0:Int)))
 (bnd (idx b ((0:Int))) fun i =>
 bnd (Z9a i.1) fun j =>
 some (.inr ((.inl ((j,(0:Int)))))))
 (bnd (chk .i64 (a - ((1:Int)))) fun k =>
 bnd (idx b k) fun m =>
 bnd (Z9a m.2) fun d =>
 bnd (chk .i64 (a - ((1:Int)))) fun n =>
 bnd (idx b n) fun o =>
 bnd (Z9a o.1) fun e =>
 bnd (idx b a) fun q =>
 bnd (Z9a q.1) fun r =>
 bnd (bnd (Zbc t d) fun u =>
 bnd (Zbc c d) fun v =>
 bnd (ZEe u v) fun w =>
 some w)
 (fun (x:Rat) =>
 (bnd (Zbc r e) fun y =>
 bnd (Zwe x y) fun z =>
 bnd (ZAd e z) fun A =>
 some (.inr ((.inl ((A,(0:Int)))))))))))
 (some (.inr ((.inr (()))))))) Zwa ((0:Int)))
 (fun (p:(Rat×Int) ⊕ (Unit))=>match p with
 | .inl ((B,C)) =>
 (some ((.inr ((B,C)))))
 | .inr (()) =>
 (some ((.inl (()))))))
 (fun (p:(Unit) ⊕ (Rat×Int))=>match p with
 | .inl (()) =>
 (bnd (Z9b ((0:Int))) fun D =>
 some ((D,(5:Int))))
 | .inr ((E,F)) =>
 (some ((E,F))))
noncomputable def Zoh (l:(List (Nat×Nat))):Option (Rat×Int) :=
 bnd (Z1d l) fun b =>
 ifb (decide ((b.length:Int) < (2:Int)))
 (bnd (Z9b ((0:Int))) fun e =>
 some ((e,(5:Int))))
 (bnd (Z9b ((0:Int))) fun f =>
 bnd (bnd (Zca (fun s:Rat×Int=>match s with
 | (c,a) =>
 (ifb (decide (a < (b.length:Int)))
 (bnd (bnd (idx b a) fun g =>
 bnd (Z9a g.2) fun h =>
 bnd (chk .i64 (a - ((1:Int)))) fun i =>
 bnd (idx b i) fun j =>
 bnd (Z9a j.2) fun k =>
 bnd (Zbc h k) fun m =>
 bnd (idx b a) fun n =>
 bnd (Z9a n.1) fun o =>
 bnd (chk .i64 (a - ((1:Int)))) fun p =>
 bnd (idx b p) fun q =>
 bnd (Z9a q.1) fun r =>
 bnd (Zbc o r) fun t =>
 bnd (ZEe m t) fun u =>
 some u)
 (fun (d:Rat) =>
 (bnd (ifb (a == ((1:Int)))
 (some true)
 (bnd (Z3c d c) fun v =>
 some (decide ((0:Int) < v))))
 (fun (w:Bool) =>
 (bnd (ifb (w)
 (some d)
 (some c))
 (fun (x:Rat) =>
 (bnd (chk .i64 (a+((1:Int)))) fun y =>
 some (.inl ((x,y))))))))))
 (some (.inr c)))) Zwa ((f,(1:Int))))
 (fun (z:Rat) =>
 (some z)))
 (fun (A:Rat) =>
 (some ((A,(0:Int))))))
noncomputable def Zph (l:(List (Nat×Nat))):Option (Int) :=
 bnd (ifb (decide ((l.length:Int) < (2:Int)))
 (some true)
 (some (decide ((1000:Int) < (l.length:Int)))))
 (fun (c:Bool) =>
 (ifb (c)
 (some ((4:Int)))
 (bnd (bnd (Zca (fun s:Int=>match s with
 | a =>
 (ifb (decide (a < (l.length:Int)))
 (bnd (idx l a) fun d =>
 bnd (ZFe d.1) fun b =>
 bnd (idx l a) fun e =>
 bnd (ZFe e.2) fun f =>
 bnd (ifb (!(b.2))
 (some true)
 (ifb (!(f.2))
 (some true)
 (bnd (Zdf b.1) fun g =>
 some (decide (g < (0:Int))))))
 (fun (h:Bool) =>
 (ifb (h)
 (some (.inr ((.inl ((1:Int))))))
 (bnd (ifb (decide ((0:Int) < a))
 (bnd (chk .i64 (a - ((1:Int)))) fun i =>
 bnd (idx l i) fun j =>
 bnd (Z9a j.1) fun k =>
 bnd (Z3c b.1 k) fun m =>
 some (decide (m≤(0:Int))))
 (some false))
 (fun (n:Bool) =>
 (ifb (n)
 (some (.inr ((.inl ((7:Int))))))
 (bnd (chk .i64 (a+((1:Int)))) fun o =>
 some (.inl o))))))))
 (some (.inr ((.inr (()))))))) Zwa ((0:Int)))
 (fun (p:(Int) ⊕ (Unit))=>match p with
 | .inl q =>
 (some ((.inr q)))
 | .inr (()) =>
 (some ((.inl (()))))))
 (fun (p:(Unit) ⊕ (Int))=>match p with
 | .inl (()) =>
 (some ((0:Int)))
 | .inr r =>
 (some r)))))
set_option maxRecDepth 100000
theorem ZTm {α:Type} (A B:List α) (z v:α):(A ++ z :: B).set A.length v = A ++ v :: B := by
  rw [List.set_append_right _ _ (Nat.le_refl _), Nat.sub_self]; rfl
theorem ZOr (l:List (Nat×Nat)) (hl:l.length≤100):Z4g l = some l := by
  unfold Z4g; have hm:mk 8 (l.length:Int) (l.length:Int) = some () := by unfold mk; rw [if_pos ⟨by omega, by omega, by omega, by omega⟩]
  rw [hm, Zd]; refine ZLa (y := l) (ZLa (y := l) (Zrc (fun k => (l.take k ++ List.replicate (l.length - k) (0, 0), (k:Int))) l.length ?_ (by omega) (fun k hk => ?_) ?_) rfl) rfl
  · simp
  · have hlen:(l.take k ++ List.replicate (l.length - k) ((0:Nat), (0:Nat))).length = l.length := by simp; omega
    have e:l.length - k = (l.length - (k+1))+1 := by omega
    have hs:(l.take k ++ List.replicate (l.length - k) ((0:Nat), (0:Nat))).set k l[k] = l.take (k+1) ++ List.replicate (l.length - (k+1)) (0, 0) := by
      have h1:(l.take k).length = k := by rw [List.length_take]; omega
      have := ZTm (l.take k) (List.replicate (l.length - (k+1)) ((0:Nat), (0:Nat))) (0, 0) l[k]; rw [h1] at this; rw [e, List.replicate_succ, this, List.take_succ_eq_append_getElem hk, List.append_assoc]; rfl
    simp only; rw [decide_eq_true (by omega), ZH, Zla hk, Zd, Zla (l := l.take k ++ List.replicate (l.length - k) ((0:Nat), (0:Nat))) (i := k) (by omega), Zd, Zea (by omega) (by omega), Zd, ← hs]; rfl
  · simp only; rw [decide_eq_false (by omega), ZD]; simp
theorem rsg6 (x:Rat):Zdf x = some x.num.sign := rfl
section
variable {l:List (Nat×Nat)}
theorem Zlc {i:Nat} (h:i < l.length):idx l (i:Int) = some (gB l i) := by rw [Zla h, ZOf h]
theorem rv1 {i:Nat} (h:i < l.length):Z9a (gB l i).1 = some (gD (l.map pv) i).1 := by rw [Zzk, ZDd h]; rfl
theorem rv2 {i:Nat} (h:i < l.length):Z9a (gB l i).2 = some (gD (l.map pv) i).2 := by rw [Zzk, ZDd h]; rfl
theorem zQ {i:Nat} (h:i < l.length):sz 300 (gD (l.map pv) i).1∧sz 300 (gD (l.map pv) i).2 := by rw [ZDd h]; exact ⟨Zne _, Zne _⟩
theorem ZLn (hl:l.length≤60):Zph l = some (Zwc l) := by
  unfold Zph Zwc; by_cases n2:l.length < 2
  · rw [decide_eq_true (by omega), ZH, Zd, ZH, if_pos (.inl n2)]
  rw [decide_eq_false (by omega), ZD, decide_eq_false (by omega), Zd, ZD, if_neg (show ¬ (l.length < 2 ∨ 1000 < l.length) by omega)]; have test:∀ p:Nat×Nat, (ifb (!((X32 p.1).2 == 0)) (some true) (ifb (!((X32 p.2).2 == 0)) (some true) (bnd (Zdf (X32 p.1).1) fun y => some (decide (y < 0))))) = some (decide (Z2e p)) := fun p => by
    by_cases k1:(X32 p.1).2 = 0
    · rw [show (!((X32 p.1).2 == 0)) = false by simpa using k1, ZD]; by_cases k2:(X32 p.2).2 = 0
      · rw [show (!((X32 p.2).2 == 0)) = false by simpa using k2, ZD, rsg6, Zd]; exact congrArg some (decide_eq_decide.2 ⟨fun k => .inr (.inr (ZLf.1 k)), fun k => ZLf.2 (by rcases k with k | k | k; exact absurd k1 k; exact absurd k2 k; exact k)⟩)
      · rw [show (!((X32 p.2).2 == 0)) = true by simpa using k2, ZH, decide_eq_true (.inr (.inl k2))]
    · rw [show (!((X32 p.1).2 == 0)) = true by simpa using k1, ZH, decide_eq_true (.inl k1)]
  refine ZLa (y := if cf (ckC l) 0 l.length ≠ 0 then .inr (cf (ckC l) 0 l.length) else .inl ()) (ZLa (Zvo (ckC l) l.length (by omega) (fun i hi => ?_) ?_) ?_) ?_
  · simp only; rw [decide_eq_true (by omega), ZH, Zlc hi]; simp only [Zd]; rw [ZYk]; simp only [Zd]; rw [ZYk]; simp only [Zd]; rw [test, Zd]; by_cases c1:Z2e (gB l i)
    · have e:ckC l i = 1 := by unfold ckC; rw [if_pos c1]
      rw [decide_eq_true c1, ZH, e, if_pos (by decide)]
    · rw [decide_eq_false c1, ZD]; by_cases h0:0 < i
      · have e1:(i:Int) - 1 = ((i - 1:Nat):Int) := by omega
        rw [decide_eq_true (by omega), ZH, Zea (by omega) (by omega), Zd, e1, Zlc (by omega), Zd, Zzk, Zd, Zde (Zne _) (Zne _) (by omega), Zd, le4, Zd]; by_cases c2:(pv (gB l i)).1≤(pv (gB l (i - 1))).1
        · have e:ckC l i = 7 := by unfold ckC; rw [if_neg c1, if_pos ⟨h0, c2⟩]
          rw [show decide ((X32 (gB l i).1).1≤(X32 (gB l (i - 1)).1).1) = true from decide_eq_true c2, ZH, e, if_pos (by decide)]
        · have e:ckC l i = 0 := by unfold ckC; rw [if_neg c1, if_neg (fun k => c2 k.2)]
          rw [show decide ((X32 (gB l i).1).1≤(X32 (gB l (i - 1)).1).1) = false from decide_eq_false c2, ZD, e, if_neg (by decide), Zea (by omega) (by omega), Zd]
      · have e:ckC l i = 0 := by unfold ckC; rw [if_neg c1, if_neg (fun k => h0 k.1)]
        rw [decide_eq_false (by omega), ZD, Zd, ZD, e, if_neg (by decide), Zea (by omega) (by omega), Zd]
  · simp only; rw [decide_eq_false (by omega), ZD]
  · generalize cf (ckC l) 0 l.length = b; by_cases hb:b ≠ 0
    · rw [if_pos hb, if_pos hb]
    · rw [if_neg hb, if_neg hb]
  · generalize cf (ckC l) 0 l.length = b; by_cases hb:b ≠ 0
    · rw [if_pos hb]
    · rw [if_neg hb, Decidable.not_not.1 hb]
theorem Zyo (h2:2≤l.length) (hl:l.length≤60):Z1d l = some (l.drop (loI (l.map pv) l.length)) := by
  unfold Z1d; have h1:loI (l.map pv) 1 = 0 := by
    show (if (gD (l.map pv) 0).2 < (gD (l.map pv) 0).2 then 0 else 0) = 0; split <;> rfl
  refine ZLa (y := (loI (l.map pv) l.length:Int)) (ZLa (y := (loI (l.map pv) l.length:Int)) (Zrc (fun k => ((loI (l.map pv) (k+1):Int), ((k+1:Nat):Int))) (l.length - 1) ?_ (by omega) (fun k hk => ?_) ?_) rfl) ?_
  · show ((loI (l.map pv) 1:Int), ((1:Nat):Int)) = _; rw [h1]; rfl
  · have hk1:k+1 < l.length := by omega
    have lo := (ZMf (l.map pv) (k+1)).2.2 (by omega); have el:loI (l.map pv) (k+2) = if (gD (l.map pv) (k+1)).2 < (gD (l.map pv) (loI (l.map pv) (k+1))).2 then k+1 else loI (l.map pv) (k+1) := rfl; simp only; rw [decide_eq_true (by omega), ZH, Zlc hk1, Zd, rv2 hk1, Zd, Zlc (by omega), Zd, rv2 (by omega), Zd, Zde (zQ hk1).2 (zQ (by omega)).2 (by omega), Zd, lt4]; refine ZLa (y := (loI (l.map pv) (k+2):Int)) ?_ ?_
    · rw [el]; by_cases h:(gD (l.map pv) (k+1)).2 < (gD (l.map pv) (loI (l.map pv) (k+1))).2
      · rw [decide_eq_true h, ZH, if_pos h]
      · rw [decide_eq_false h, ZD, if_neg h]
    rw [Zea (by omega) (by omega), Zd]; rfl
  · simp only; rw [decide_eq_false (by omega), ZD, show l.length - 1+1 = l.length by omega]
  · have lo := (ZMf (l.map pv) l.length).2.1; have ec:Zub l (loI (l.map pv) l.length:Int) (l.length:Int) = some (l.drop (loI (l.map pv) l.length)) := by
      unfold Zub; rw [if_pos ⟨by omega, by omega, by omega⟩, Int.toNat_natCast, Int.toNat_natCast, List.take_length]
    rw [ec, Zd]
end
def slD (D:List PT) (i:Nat):Rat := ((gD D i).2 - (gD D (i - 1)).2) / ((gD D i).1 - (gD D (i - 1)).1)
def bs (D:List PT):Nat→Rat
  | 0 => slD D 1
  | k+1 => if bs D k < slD D (k+2) then slD D (k+2) else bs D k
def ZJf (D:List PT):Rat×Int := if D.length < 2 then (0, 5) else (bs D (D.length - 2), 0)
section
variable {D:List PT} (R:Rise D)
include R
theorem Zej {i:Nat} (h0:0 < i) (h:i < D.length):sz 1300 (slD D i) := by
  have zp := R.szs (i - 1) (by omega); have zq := R.szs i h; exact (Zbg (Z7b zq.2 zp.2) (Z7b zq.1 zp.1)).mono (by omega)
theorem ZWj:∀ k, k+1 < D.length→sz 1300 (bs D k)
  | 0, h => Zej R (by omega) h
  | k+1, h => by
    have a := ZWj k (by omega)
    have b := Zej R (i := k+2) (by omega) h
    unfold bs
    split
    · exact b
    · exact a
theorem ZSq:sz 1300 (ZJf D).1 := by
  unfold ZJf; by_cases h:D.length < 2
  · rw [if_pos h]; exact ZNg.mono (by omega)
  · rw [if_neg h]; exact ZWj R _ (by omega)
theorem ZSm {i:Nat} (h:i+1 < D.length):ZHe ((gD D i).1, (gD D i).2) ((gD D (i+1)).1, (gD D (i+1)).2) = some (slD D (i+1)) := by
  have zp := R.szs i (by omega); have zq := R.szs (i+1) h; have tt := R.time i (i+1) (by omega) h; unfold ZHe; rw [Zog zq.2 zp.2 (by omega), Zd, Zog zq.1 zp.1 (by omega), Zd, ZVk (Z7b zq.2 zp.2) (Z7b zq.1 zp.1) (by omega) (by grind), Zd]; rfl
theorem ZTr:Zhh D = some (ZJf D) := by
  have h60 := R.n40; unfold Zhh ZJf; by_cases h:D.length < 2
  · rw [decide_eq_true (by omega), ZH, if_pos h]
  rw [decide_eq_false (by omega), ZD, if_neg h, show idx D (0:Int) = some (gD D 0) from Zed R (i := 0) (by omega), Zd, show idx D (1:Int) = some (gD D 1) from Zed R (i := 1) (by omega), Zd, show ZHe ((gD D 0).1, (gD D 0).2) ((gD D 1).1, (gD D 1).2) = some (slD D 1) from ZSm R (i := 0) (by omega), Zd, Zd]; refine ZLa (y := bs D (D.length - 2)) (ZLa (y := bs D (D.length - 2)) (Zrc (fun k => (bs D k, ((k+2:Nat):Int))) (D.length - 2) rfl (by omega) (fun k hk => ?_) ?_) rfl) rfl
  · have e1:((k+2:Nat):Int) - 1 = ((k+1:Nat):Int) := by omega
    have el:bs D (k+1) = if bs D k < slD D (k+2) then slD D (k+2) else bs D k := rfl; simp only; rw [decide_eq_true (by omega), ZH, Zea (by omega) (by omega), Zd, e1, Zed R (by omega), Zd, Zed R (by omega), Zd, ZSm R (by omega), Zd, Zd, Zae (Zej R (i := k+2) (by omega) (by omega)) (ZWj R k (by omega)) (by omega), Zd, gt4]; refine ZLa (y := bs D (k+1)) ?_ ?_
    · rw [el]; by_cases hh:bs D k < slD D (k+2)
      · rw [decide_eq_true hh, ZH, if_pos hh]
      · rw [decide_eq_false hh, ZD, if_neg hh]
    rw [Zea (by omega) (by omega), Zd]; rfl
  · simp only; rw [decide_eq_false (by omega), ZD]
end
section
variable {l r:List (Nat×Nat)} (hr:Z1d l = some r) (R:Rise (r.map pv))
include hr R
theorem r_len:r.length≤60∧0 < r.length := by
  have a := R.n40; have b := R.n0; rw [List.length_map] at a b; exact ⟨a, b⟩
theorem ZXp:ZWh l = some ((gD (r.map pv) 0).2, (gD (r.map pv) 0).1, (gD (r.map pv) (hiI (r.map pv) r.length)).2, (gD (r.map pv) (hiI (r.map pv) r.length)).1) := by
  obtain ⟨h60, h0⟩ := r_len hr R; have h1:hiI (r.map pv) 1 = 0 := by
    show (if (gD (r.map pv) 0).2 < (gD (r.map pv) 0).2 then 0 else 0) = 0; split <;> rfl
  unfold ZWh; rw [hr, Zd]; refine ZLa (y := (hiI (r.map pv) r.length:Int)) (ZLa (y := (hiI (r.map pv) r.length:Int)) (Zrc (fun k => ((hiI (r.map pv) (k+1):Int), ((k+1:Nat):Int))) (r.length - 1) ?_ (by omega) (fun k hk => ?_) ?_) rfl) ?_
  · show ((hiI (r.map pv) 1:Int), ((1:Nat):Int)) = _; rw [h1]; rfl
  · have hk1:k+1 < r.length := by omega
    have lo := (ZYg (r.map pv) (k+1)).2.2 (by omega); have el:hiI (r.map pv) (k+2) = if (gD (r.map pv) (hiI (r.map pv) (k+1))).2 < (gD (r.map pv) (k+1)).2 then k+1 else hiI (r.map pv) (k+1) := rfl; simp only; rw [decide_eq_true (by omega), ZH, Zlc hk1, Zd, rv2 hk1, Zd, Zlc (by omega), Zd, rv2 (by omega), Zd, Zde (zQ hk1).2 (zQ (by omega)).2 (by omega), Zd, gt4]; refine ZLa (y := (hiI (r.map pv) (k+2):Int)) ?_ ?_
    · rw [el]; by_cases h:(gD (r.map pv) (hiI (r.map pv) (k+1))).2 < (gD (r.map pv) (k+1)).2
      · rw [decide_eq_true h, ZH, if_pos h]
      · rw [decide_eq_false h, ZD, if_neg h]
    rw [Zea (by omega) (by omega), Zd]; rfl
  · simp only; rw [decide_eq_false (by omega), ZD, show r.length - 1+1 = r.length by omega]
  · have hh := (ZYg (r.map pv) r.length).2.2 h0; rw [show idx r (0:Int) = some (gB r 0) from Zlc h0]; simp only [Zd]; rw [Zlc hh]; simp only [Zd]; rw [rv2 h0]; simp only [Zd]; rw [rv1 h0]; simp only [Zd]; rw [rv2 hh]; simp only [Zd]; rw [rv1 hh]; simp only [Zd]
theorem Zdm {t:Rat} (zt:sz 1000 t):ZMg l t = some (Zbf (r.map pv) t) := by
  obtain ⟨h60, h0⟩ := r_len hr R; have hlen:(r.map pv).length = r.length := List.length_map ..; have hkl := ZVh (r.map pv) t; unfold ZMg Zbf; rw [hr, Zd]; have step:∀ k, k < r.length→k < kR (r.map pv) t→decide ((gD (r.map pv) k).2 < t) = true := fun k _ h => decide_eq_true (Zbi h); by_cases hc:kR (r.map pv) t = (r.map pv).length
  · rw [if_pos hc]; have w0:Z9b 0 = some 0 := rfl; refine ZLa (y := .inl ()) (ZLa (y := .inr ()) (Zrc (fun k => (k:Int)) r.length rfl (by omega) (fun k hk => ?_) ?_) rfl) (by simp only; rw [w0, Zd])
    · simp only; rw [decide_eq_true (by omega), ZH, Zlc hk, Zd, rv2 hk, Zd, Zde (zQ hk).2 zt (by omega), Zd, lt4, step k hk (by omega), ZH, Zea (by omega) (by omega), Zd]; rfl
    · simp only; rw [decide_eq_false (by omega), ZD]
  · have hlt:kR (r.map pv) t < (r.map pv).length := by omega
    rw [if_neg hc]; have at_t := kR_at hlt; have res:∀ v:Rat×Int, (∀ kk, kk = kR (r.map pv) t→(ifb ((kk:Int) == 0) (bnd (idx r 0) fun y158 => bnd (Z9a y158.1) fun y169 => some (.inr (.inl (y169, (0:Int))))) (bnd (chk .i64 ((kk:Int) - 1)) fun y198 => bnd (idx r y198) fun y200 => bnd (Z9a y200.2) fun y211 => bnd (chk .i64 ((kk:Int) - 1)) fun y220 => bnd (idx r y220) fun y222 => bnd (Z9a y222.1) fun y233 => bnd (idx r (kk:Int)) fun y242 => bnd (Z9a y242.1) fun y253 => bnd (bnd (Zbc t y211) fun y526 => bnd (Zbc (gD (r.map pv) kk).2 y211) fun y535 => bnd (ZEe y526 y535) fun y544 => some y544) (fun (x460:Rat) => (bnd (Zbc y253 y233) fun y476 => bnd (Zwe x460 y476) fun y485 => bnd (ZAd y233 y485) fun y494 => some (.inr (.inl (y494, (0:Int)))))))) = some ((.inr (.inl v)):Int ⊕ ((Rat×Int) ⊕ Unit)))→(bnd (bnd (Zca (fun s:Int => match s with | x65 => (ifb (decide (x65 < (r.length:Int))) (bnd (idx r x65) fun y88 => bnd (Z9a y88.2) fun y101 => bnd (Z3c y101 t) fun y136 => ifb (decide (y136 < (0:Int))) (bnd (chk .i64 (x65+((1:Int)))) fun y149 => some (.inl y149)) (ifb (x65 == ((0:Int))) (bnd (idx r ((0:Int))) fun y158 => bnd (Z9a y158.1) fun y169 => some (.inr ((.inl ((y169, (0:Int))))))) (bnd (chk .i64 (x65 - ((1:Int)))) fun y198 => bnd (idx r y198) fun y200 => bnd (Z9a y200.2) fun y211 => bnd (chk .i64 (x65 - ((1:Int)))) fun y220 => bnd (idx r y220) fun y222 => bnd (Z9a y222.1) fun y233 => bnd (idx r x65) fun y242 => bnd (Z9a y242.1) fun y253 => bnd (bnd (Zbc t y211) fun y526 => bnd (Zbc y101 y211) fun y535 => bnd (ZEe y526 y535) fun y544 => some y544) (fun (x460:Rat) => (bnd (Zbc y253 y233) fun y476 => bnd (Zwe x460 y476) fun y485 => bnd (ZAd y233 y485) fun y494 => some (.inr ((.inl ((y494, (0:Int))))))))))) (some (.inr ((.inr (()))))))) Zwa ((0:Int))) (fun (p:(Rat×Int) ⊕ (Unit)) => match p with | .inl ((x77, x78)) => (some ((.inr ((x77, x78))))) | .inr (()) => (some ((.inl (())))))) (fun (p:(Unit) ⊕ (Rat×Int)) => match p with | .inl (()) => (bnd (Z9b ((0:Int))) fun y45 => some ((y45, (5:Int)))) | .inr ((x63, x64)) => (some ((x63, x64))))) = some v := fun v hv => by
      refine ZLa (y := .inr v) (ZLa (y := .inl v) (Zrc (fun k => (k:Int)) (kR (r.map pv) t) rfl (by omega) (fun k hk => ?_) ?_) rfl) rfl
      · have hk':k < r.length := by omega
        simp only; rw [decide_eq_true (by omega), ZH, Zlc hk', Zd, rv2 hk', Zd, Zde (zQ hk').2 zt (by omega), Zd, lt4, step k hk' hk, ZH, Zea (by omega) (by omega), Zd]; rfl
      · have hk':kR (r.map pv) t < r.length := by omega
        have nlt:decide ((gD (r.map pv) (kR (r.map pv) t)).2 < t) = false := decide_eq_false (by grind); simp only; rw [decide_eq_true (by omega), ZH, Zlc hk', Zd, rv2 hk', Zd, Zde (zQ hk').2 zt (by omega), Zd, lt4, nlt, ZD]; have := hv _ rfl; rw [Zlc hk'] at this; exact this
    have hk':kR (r.map pv) t < r.length := by omega
    have bt:∀ j, j < kR (r.map pv) t→(gD (r.map pv) j).2 < t := fun j hj => Zbi hj; by_cases hk0:kR (r.map pv) t = 0
    · rw [if_pos hk0]; refine res _ fun kk hkk => ?_; rw [hkk, hk0, show ((((0:Nat):Int)) == (0:Int)) = true from rfl, ZH, show idx r (0:Int) = some (gB r 0) from Zlc h0, Zd, rv1 h0, Zd]
    · rw [if_neg hk0]; refine res _ fun kk hkk => ?_; rw [← hkk] at hk' at_t bt hk0 ⊢; have e0:(((kk:Nat):Int) == (0:Int)) = false := by rw [beq_eq_false_iff_ne]; omega
      have e1:(kk:Int) - 1 = ((kk - 1:Nat):Int) := by omega
      have p1:kk - 1 < r.length := by omega
      have zp := zQ p1; have zq := zQ hk'; have tt := R.time (kk - 1) kk (by omega) (by omega); have vv := bt (kk - 1) (by omega); have d1 := Z7b zt zp.2; have d2 := Z7b zq.2 zp.2; have d3 := Z7b zq.1 zp.1; have d5 := Zbg d1 d2; have n4:(gD (r.map pv) kk).2 - (gD (r.map pv) (kk - 1)).2 ≠ 0 := by grind
      rw [e0, ZD, Zea (by omega) (by omega), Zd, e1, Zlc p1, Zd, rv2 p1, Zd, Zd, Zlc p1, Zd, rv1 p1, Zd, Zlc hk', Zd, rv1 hk', Zd, Zrg zt zp.2 (by omega), Zd, Zrg zq.2 zp.2 (by omega), Zd, Z6m d1 d2 (by omega) n4, Zd, Zd, Zrg zq.1 zp.1 (by omega), Zd, Zcm d5 d3 (by omega), Zd, ZZk zp.1 (ZEf d5 d3) (by omega), Zd]; have es:Z6j (gD (r.map pv) (kk - 1)) (gD (r.map pv) kk) t = (gD (r.map pv) (kk - 1)).1+(t - (gD (r.map pv) (kk - 1)).2) / ((gD (r.map pv) kk).2 - (gD (r.map pv) (kk - 1)).2) * ((gD (r.map pv) kk).1 - (gD (r.map pv) (kk - 1)).1) := by
        unfold Z6j; generalize (gD (r.map pv) kk).2 - (gD (r.map pv) (kk - 1)).2 = b at *; have hc3:0 < (gD (r.map pv) kk).1 - (gD (r.map pv) (kk - 1)).1 := by grind
        generalize (gD (r.map pv) kk).1 - (gD (r.map pv) (kk - 1)).1 = c at *; generalize t - (gD (r.map pv) (kk - 1)).2 = a at *; have hcc:c ≠ 0 := by grind
        have i1 := Rat.mul_inv_cancel b n4; have i2 := Rat.mul_inv_cancel c hcc; have i3 := Rat.mul_inv_cancel (b / c) (by rw [Rat.div_def]; intro h; have := congrArg (· * c) h; simp only [Rat.zero_mul, Rat.mul_assoc, Rat.inv_mul_cancel c hcc, Rat.mul_one] at this; exact n4 this); rw [Rat.div_def a (b / c), Rat.div_def a b]; have e3:(b / c)⁻¹ = b⁻¹ * c := by
          have:(b / c) * (b⁻¹ * c) = 1 := by rw [Rat.div_def]; grind
          grind
        rw [e3]; grind
      rw [es]
theorem Zfq:Zoh l = some (ZJf (r.map pv)) := by
  obtain ⟨h60, h0⟩ := r_len hr R; have hlen:(r.map pv).length = r.length := List.length_map ..; have w0:Z9b 0 = some 0 := rfl; unfold Zoh ZJf; rw [hr, Zd, hlen, w0]; by_cases h:r.length < 2
  · rw [decide_eq_true (by omega), ZH, if_pos h, Zd]
  rw [decide_eq_false (by omega), ZD, if_neg h, Zd]; refine ZLa (y := bs (r.map pv) (r.length - 2)) (ZLa (y := bs (r.map pv) (r.length - 2)) (Zrc (fun k => ((match k with | 0 => 0 | k+1 => bs (r.map pv) k), ((k+1:Nat):Int))) (r.length - 1) rfl (by omega) (fun k hk => ?_) ?_) rfl) rfl
  · have hk1:k+1 < r.length := by omega
    have e1:((k+1:Nat):Int) - 1 = (k:Int) := by omega
    have zp := zQ (l := r) (i := k) (by omega); have zq := zQ hk1; have tt := R.time k (k+1) (by omega) (by omega); have n3:(gD (r.map pv) (k+1)).1 - (gD (r.map pv) k).1 ≠ 0 := by grind
    have zs := Zej R (i := k+1) (by omega) (by omega); have es:((gD (r.map pv) (k+1)).2 - (gD (r.map pv) k).2) / ((gD (r.map pv) (k+1)).1 - (gD (r.map pv) k).1) = slD (r.map pv) (k+1) := rfl; have hk0:k < r.length := by omega
    simp only; rw [decide_eq_true (by omega), ZH, Zlc hk1]; simp only [Zd]; rw [Zea (by omega) (by omega), e1]; simp only [Zd]; rw [Zlc hk0]; simp only [Zd]; rw [rv2 hk1, rv2 hk0, rv1 hk1, rv1 hk0]; simp only [Zd]; rw [Zrg zq.2 zp.2 (by omega), Zrg zq.1 zp.1 (by omega)]; simp only [Zd]; rw [Z6m (Z7b zq.2 zp.2) (Z7b zq.1 zp.1) (by omega) n3, es]; simp only [Zd]; have ck:chk .i64 (((k+1:Nat):Int)+1) = some (((k+1+1:Nat):Int)) := Zea (by omega) (by omega)
    cases k with
    | zero =>
      rw [show (((0+1:Nat):Int) == 1) = true from rfl, ZH, Zd, ZH, Zd, ck, Zd]; rfl
    | succ k =>
      have en:(((k+1+1:Nat):Int) == 1) = false := by rw [beq_eq_false_iff_ne]; omega
      have el:bs (r.map pv) (k+1) = if bs (r.map pv) k < slD (r.map pv) (k+2) then slD (r.map pv) (k+2) else bs (r.map pv) k := rfl; rw [en, ZD, Zde zs (ZWj R k (by omega)) (by omega), Zd, gt4, Zd]; refine ZLa (y := bs (r.map pv) (k+1)) ?_ (by rw [ck, Zd]); rw [el]; by_cases hh:bs (r.map pv) k < slD (r.map pv) (k+2)
      · rw [decide_eq_true hh, ZH, if_pos hh]
      · rw [decide_eq_false hh, ZD, if_neg hh]
  · simp only; rw [decide_eq_false (by omega), ZD]; obtain ⟨n, hn⟩:∃ n, r.length = n+2 := ⟨r.length - 2, by omega⟩; rw [hn]; rfl
end
noncomputable def Z2h (x:(Int×Rat×Rat×Rat)) (lw:Rat) (hg:Rat) (rr:(List (Rat×Rat))):Option (Rat×Int) :=
 ifb (x.1 == ((0:Int)))
 (some ((lw,(0:Int))))
 (ifb (x.1 == ((1:Int)))
 (some ((hg,(0:Int))))
 (ifb (x.1 == ((2:Int)))
 (bnd (Zad lw x.2.1) fun d =>
 bnd (ZSf rr d) fun a =>
 some ((a.1,a.2)))
 (ifb (x.1 == ((3:Int)))
 (bnd (ZKd hg lw) fun e =>
 bnd (ZZd x.2.1 e) fun f =>
 bnd (Zad lw f) fun g =>
 bnd (ZSf rr g) fun b =>
 some ((b.1,b.2)))
 (bnd (Zhh rr) fun c =>
 some ((c.1,c.2))))))
noncomputable def Z1h (l:(List Int)) (v:Int):Option (Int) :=
 bnd (bnd (Zca (fun s:Int=>match s with
 | a =>
 (ifb (decide (a < (l.length:Int)))
 (bnd (idx l a) fun b =>
 ifb (v == b)
 (some (.inr ((.inl a))))
 (bnd (chk .i64 (a+((1:Int)))) fun c =>
 some (.inl c)))
 (some (.inr ((.inr (()))))))) Zwa ((0:Int)))
 (fun (p:(Int) ⊕ (Unit))=>match p with
 | .inl d =>
 (some ((.inr d)))
 | .inr (()) =>
 (some ((.inl (()))))))
 (fun (p:(Unit) ⊕ (Int))=>match p with
 | .inl (()) =>
 (some ((-1:Int)))
 | .inr e =>
 (some e))
noncomputable def ZTh (l:(List Int)) (v:Int):Option (Bool) :=
 bnd (Z1h l v) fun a =>
 some (decide ((0:Int)≤a))
noncomputable def Zmf (l:(List (Nat×Nat))) (rules:(List (Int×Rat×Rat×Rat))):Option ((List (Rat×Bool×Bool))×Int) :=
 bnd (ZGe l) fun d =>
 ifb (d.2 != ((0:Int)))
 (some ((([]:(List (Rat×Bool×Bool))),d.2)))
 (ifb (decide ((16:Int) < (rules.length:Int)))
 (some ((([]:(List (Rat×Bool×Bool))),(4:Int))))
 (bnd (bnd (Zca (fun s:Int=>match s with
 | e =>
 (ifb (decide (e < (rules.length:Int)))
 (bnd (idx rules e) fun f =>
 bnd (ZTh ([(0:Int),(1:Int),(2:Int),(3:Int),(4:Int)]) f.1) fun i =>
 ifb (!(i))
 (some (.inr ((.inl ((([]:(List (Rat×Bool×Bool))),(1:Int)))))))
 (bnd (ZOc f.2.2.1 f.2.2.2) fun j =>
 ifb (decide ((0:Int) < j))
 (some (.inr ((.inl ((([]:(List (Rat×Bool×Bool))),(7:Int)))))))
 (bnd (chk .i64 (e+((1:Int)))) fun k =>
 some (.inl k))))
 (some (.inr ((.inr (()))))))) Zwa ((0:Int)))
 (fun (p:((List (Rat×Bool×Bool))×Int) ⊕ (Unit))=>match p with
 | .inl ((m,n)) =>
 (some ((.inr ((m,n)))))
 | .inr (()) =>
 (some ((.inl (()))))))
 (fun (p:(Unit) ⊕ ((List (Rat×Bool×Bool))×Int))=>match p with
 | .inl (()) =>
 (bnd (idx d.1 ((0:Int))) fun o =>
 bnd (ZNh d.1) fun q =>
 bnd (bnd (Zca (fun s:(List (Rat×Bool×Bool))×Int=>match s with
 | (a,g) =>
 (ifb (decide (g < (rules.length:Int)))
 (bnd (bnd (idx rules g) fun c =>
 bnd (Z2h ((c.1,c.2.1,c.2.2.1,c.2.2.2)) o.2 q.2 d.1) fun b =>
 ifb (b.2 != ((0:Int)))
 (bnd (Zcb 64 (a ++ [((0:Rat),false,false)])) fun A =>
 some ((a ++ [((0:Rat),false,false)])))
 (bnd (bnd (ZOc b.1 c.2.2.1) fun r =>
 ifb (decide ((0:Int)≤r))
 (bnd (ZOc b.1 c.2.2.2) fun h =>
 bnd (Zcb 64 (a ++ [(b.1,true,decide (h≤(0:Int)))])) fun B =>
 some ((a ++ [(b.1,true,decide (h≤(0:Int)))])))
 (bnd (Zcb 64 (a ++ [(b.1,true,false)])) fun C =>
 some ((a ++ [(b.1,true,false)]))))
 (fun (t:(List (Rat×Bool×Bool))) =>
 (some t))))
 (fun (u:(List (Rat×Bool×Bool))) =>
 (bnd (chk .i64 (g+((1:Int)))) fun v =>
 some (.inl ((u,v))))))
 (some (.inr a)))) Zwa ((([]:(List (Rat×Bool×Bool))),(0:Int))))
 (fun (w:(List (Rat×Bool×Bool))) =>
 (some w)))
 (fun (x:(List (Rat×Bool×Bool))) =>
 (some ((x,(0:Int))))))
 | .inr ((y,z)) =>
 (some ((y,z))))))
noncomputable def Zrh (l:(List (Nat×Nat))) (r:(Int×Rat×Rat×Rat)):Option (Rat×Int) :=
 bnd (ZWh l) fun a =>
 ifb (r.1 == ((0:Int)))
 (some ((a.1,(0:Int))))
 (ifb (r.1 == ((1:Int)))
 (some ((a.2.2.1,(0:Int))))
 (ifb (r.1 == ((2:Int)))
 (bnd (ZAd a.1 r.2.1) fun e =>
 bnd (ZMg l e) fun b =>
 some ((b.1,b.2)))
 (ifb (r.1 == ((3:Int)))
 (bnd (Zbc a.2.2.1 a.1) fun f =>
 bnd (Zwe r.2.1 f) fun g =>
 bnd (ZAd a.1 g) fun h =>
 bnd (ZMg l h) fun c =>
 some ((c.1,c.2)))
 (bnd (Zoh l) fun d =>
 some ((d.1,d.2))))))
noncomputable def Zef (l:(List (Nat×Nat))) (rules:(List (Int×Rat×Rat×Rat))):Option ((List (Rat×Bool×Bool))×Int) :=
 bnd (Zph l) fun g =>
 ifb (g != ((0:Int)))
 (some ((([]:(List (Rat×Bool×Bool))),g)))
 (ifb (decide ((16:Int) < (rules.length:Int)))
 (some ((([]:(List (Rat×Bool×Bool))),(4:Int))))
 (bnd (bnd (Zca (fun s:Int=>match s with
 | c =>
 (ifb (decide (c < (rules.length:Int)))
 (bnd (bnd (idx rules c) fun h =>
 ifb (decide (h.1 < (0:Int)))
 (some true)
 (bnd (idx rules c) fun i =>
 some (decide ((4:Int) < i.1))))
 (fun (j:Bool) =>
 (ifb (j)
 (some (.inr ((.inl ((([]:(List (Rat×Bool×Bool))),(1:Int)))))))
 (bnd (idx rules c) fun k =>
 bnd (idx rules c) fun m =>
 bnd (Z3c k.2.2.1 m.2.2.2) fun n =>
 ifb (decide ((0:Int) < n))
 (some (.inr ((.inl ((([]:(List (Rat×Bool×Bool))),(7:Int)))))))
 (bnd (chk .i64 (c+((1:Int)))) fun o =>
 some (.inl o))))))
 (some (.inr ((.inr (()))))))) Zwa ((0:Int)))
 (fun (p:((List (Rat×Bool×Bool))×Int) ⊕ (Unit))=>match p with
 | .inl ((q,r)) =>
 (some ((.inr ((q,r)))))
 | .inr (()) =>
 (some ((.inl (()))))))
 (fun (p:(Unit) ⊕ ((List (Rat×Bool×Bool))×Int))=>match p with
 | .inl (()) =>
 (bnd (mk 64 ((rules.length:Int)) ((rules.length:Int))) fun F =>
 bnd (bnd (Zca (fun s:(List ((Option Rat)×Bool×Bool))×Int=>match s with
 | (b,a) =>
 (ifb (decide (a < (rules.length:Int)))
 (bnd (idx rules a) fun f =>
 bnd (Zrh l ((f.1,f.2.1,f.2.2.1,f.2.2.2))) fun d =>
 bnd (Z9b ((0:Int))) fun e =>
 bnd (idx b a) fun G =>
 bnd (ifb (d.2 == ((0:Int)))
 (bnd (bnd (idx rules a) fun t =>
 bnd (Z3c d.1 t.2.2.1) fun u =>
 ifb (decide ((0:Int)≤u))
 (bnd (idx rules a) fun v =>
 bnd (Z3c d.1 v.2.2.2) fun w =>
 bnd (idx ((b.set (a).toNat (((some e),false,false)))) a) fun H =>
 some ((((b.set (a).toNat (((some e),false,false)))).set (a).toNat (((some d.1),true,decide (w≤(0:Int)))))))
 (bnd (idx ((b.set (a).toNat (((some e),false,false)))) a) fun I =>
 some ((((b.set (a).toNat (((some e),false,false)))).set (a).toNat (((some d.1),true,false))))))
 (fun (x:(List ((Option Rat)×Bool×Bool))) =>
 (some x)))
 (some ((b.set (a).toNat (((some e),false,false))))))
 (fun (y:(List ((Option Rat)×Bool×Bool))) =>
 (bnd (chk .i64 (a+((1:Int)))) fun z =>
 some (.inl ((y,z))))))
 (some (.inr b)))) Zwa (((List.replicate ((rules.length:Int)).toNat (((none:Option Rat),false,false))),(0:Int))))
 (fun (A:(List ((Option Rat)×Bool×Bool))) =>
 (some A)))
 (fun (B:(List ((Option Rat)×Bool×Bool))) =>
 (bnd (mapO (coP coQ (coP coI coI)) B) fun C =>
 some ((C,(0:Int))))))
 | .inr ((D,E)) =>
 (some ((D,E))))))
noncomputable def Zxj (l:(List (Nat×Nat))) (rules:(List (Int×(Int×Int)×(Int×Int)×(Int×Int)))):Option (Bool) :=
 bnd (ifb (decide ((60:Int) < (l.length:Int)))
 (some true)
 (some (decide ((20:Int) < (rules.length:Int)))))
 (fun (h:Bool) =>
 (ifb (h)
 (bnd (Z4f ) fun i =>
 some i)
 (bnd (bnd (mk 176 ((rules.length:Int)) ((rules.length:Int))) fun O =>
 bnd (mk 176 ((rules.length:Int)) ((rules.length:Int))) fun P =>
 some (((List.replicate ((rules.length:Int)).toNat (((0:Int),(0:Rat),(0:Rat),(0:Rat)))),(List.replicate ((rules.length:Int)).toNat (((0:Int),(none:Option Rat),(none:Option Rat),(none:Option Rat)))))))
 (fun (p:(List (Int×Rat×Rat×Rat))×(List (Int×(Option Rat)×(Option Rat)×(Option Rat))))=>match p with
 | (j,k) =>
 (bnd (bnd (Zca (fun s:(List (Int×Rat×Rat×Rat))×(List (Int×(Option Rat)×(Option Rat)×(Option Rat)))×Int=>match s with
 | (f,g,c) =>
 (ifb (decide (c < (rules.length:Int)))
 (bnd (idx rules c) fun a =>
 bnd (Zuf ((a.2.1.1,a.2.1.2))) fun m =>
 bnd (Zuf ((a.2.2.1.1,a.2.2.1.2))) fun n =>
 bnd (Zuf ((a.2.2.2.1,a.2.2.2.2))) fun o =>
 bnd (idx f c) fun Q =>
 bnd (rofF ((a.2.1.1,a.2.1.2))) fun q =>
 bnd (rofF ((a.2.2.1.1,a.2.2.1.2))) fun r =>
 bnd (rofF ((a.2.2.2.1,a.2.2.2.2))) fun t =>
 bnd (idx g c) fun R =>
 bnd (chk .i64 (c+((1:Int)))) fun u =>
 some (.inl (((f.set (c).toNat ((a.1,m,n,o))),(g.set (c).toNat ((a.1,(some q),(some r),(some t)))),u))))
 (some (.inr ((f,g)))))) Zwa ((j,k,(0:Int))))
 (fun (p:(List (Int×Rat×Rat×Rat))×(List (Int×(Option Rat)×(Option Rat)×(Option Rat))))=>match p with
 | (v,w) =>
 (some ((v,w)))))
 (fun (p:(List (Int×Rat×Rat×Rat))×(List (Int×(Option Rat)×(Option Rat)×(Option Rat))))=>match p with
 | (x,y) =>
 (bnd (Z4g l) fun z =>
 bnd (Zmf z x) fun d =>
 bnd (mapO (coP coI (coP coQ (coP coQ coQ))) y) fun A =>
 bnd (Zef l A) fun e =>
 bnd (ifb (d.2 != e.2)
 (some true)
 (some (((d.1.length:Int)) != ((e.1.length:Int)))))
 (fun (B:Bool) =>
 (ifb (B)
 (some false)
 (bnd (bnd (Zca (fun s:Int=>match s with
 | b =>
 (ifb (decide (b < (d.1.length:Int)))
 (bnd (bnd (idx d.1 b) fun C =>
 bnd (idx e.1 b) fun D =>
 ifb (C.2.1 != D.2.1)
 (some true)
 (bnd (idx d.1 b) fun E =>
 bnd (idx e.1 b) fun F =>
 ifb (E.2.2 != F.2.2)
 (some true)
 (bnd (idx d.1 b) fun G =>
 bnd (idx e.1 b) fun H =>
 bnd (Zmi G.1 H.1) fun I =>
 some (!(I)))))
 (fun (J:Bool) =>
 (ifb (J)
 (some (.inr ((.inl false))))
 (bnd (chk .i64 (b+((1:Int)))) fun K =>
 some (.inl K)))))
 (some (.inr ((.inr (()))))))) Zwa ((0:Int)))
 (fun (p:(Bool) ⊕ (Unit))=>match p with
 | .inl L =>
 (some ((.inr L)))
 | .inr (()) =>
 (some ((.inl (()))))))
 (fun (p:(Unit) ⊕ (Bool))=>match p with
 | .inl (()) =>
 (bnd (Z4f ) fun M =>
 some M)
 | .inr N =>
 (some N))))))))))))
set_option maxRecDepth 100000
abbrev RU := Int×Rat×Rat×Rat
abbrev IRU := Int×(Int×Int)×(Int×Int)×(Int×Int)
abbrev FN := Rat×Bool×Bool
abbrev gX (l:List RU) (i:Nat):RU := l.getD i (0, 0, 0, 0)
theorem ZRq (v:Int):ZTh [(0:Int), 1, 2, 3, 4] v = some (decide (0≤v∧v≤4)) := by
  by_cases h:0≤v∧v≤4
  · rcases (show v = 0 ∨ v = 1 ∨ v = 2 ∨ v = 3 ∨ v = 4 by omega) with rfl | rfl | rfl | rfl | rfl <;> decide +kernel
  · rw [decide_eq_false h]; have hi:Z1h [(0:Int), 1, 2, 3, 4] v = some (-1) := by
      unfold Z1h; refine ZLa (y := .inl ()) (ZLa (y := .inr ()) (Zrc (fun k => (k:Int)) 5 rfl (by omega) (fun k hk => ?_) ?_) rfl) rfl
      · have hx:idx [(0:Int), 1, 2, 3, 4] (k:Int) = some (k:Int) := by
          rcases (show k = 0 ∨ k = 1 ∨ k = 2 ∨ k = 3 ∨ k = 4 by omega) with rfl | rfl | rfl | rfl | rfl <;> rfl
        have hv:(v == (k:Int)) = false := by rw [beq_eq_false_iff_ne]; omega
        simp only; rw [show decide ((k:Int) < (([(0:Int), 1, 2, 3, 4]:List Int).length:Int)) = true from decide_eq_true (by simp; omega), ZH, hx, Zd, hv, ZD, Zea (by omega) (by omega), Zd]; rfl
      · rfl
    unfold ZTh; rw [hi]; rfl
def cR (x:RU):Int := if ¬ (0≤x.1∧x.1≤4) then 1 else if x.2.2.2 < x.2.2.1 then 7 else 0
def ZBc (A:List RU):Int := cf (fun i => cR (gX A i)) 0 A.length
def vF (D:List PT) (x:RU):Rat×Int :=
  if x.1 = 0 then ((gD D 0).2, 0) else if x.1 = 1 then ((gD D (hiI D D.length)).2, 0)
  else if x.1 = 2 then Zbf D ((gD D 0).2+x.2.1)
  else if x.1 = 3 then Zbf D ((gD D 0).2+x.2.1 * ((gD D (hiI D D.length)).2 - (gD D 0).2))
  else ZJf D
def fF (D:List PT) (x:RU):FN := if (vF D x).2 = 0 then ((vF D x).1, true, decide (x.2.2.1≤(vF D x).1∧(vF D x).1≤x.2.2.2)) else (0, false, false)
def szU (x:RU):Prop := sz 64 x.2.1∧sz 64 x.2.2.1∧sz 64 x.2.2.2
theorem takeM {α β:Type} (f:α→β) (l:List α) {k:Nat} (h:k < l.length):(l.take (k+1)).map f = (l.take k).map f ++ [f l[k]] := by
  rw [List.take_succ_eq_append_getElem h, List.map_append]; rfl
def Zsc {α β:Type} (f:α→β) (z:β) (l:List α) (k:Nat):List β := (l.take k).map f ++ List.replicate (l.length - k) z
theorem Zwk {α β:Type} (f:α→β) (z:β) (l:List α) {k:Nat} (h:k≤l.length):(Zsc f z l k).length = l.length := by unfold Zsc; simp; omega
theorem Zqk {α β:Type} (f:α→β) (z:β) (l:List α) {k:Nat} (h:k < l.length):(Zsc f z l k).set k (f l[k]) = Zsc f z l (k+1) := by
  unfold Zsc; have e:l.length - k = (l.length - (k+1))+1 := by omega
  have hl:((l.take k).map f).length = k := by simp; omega
  rw [e, List.replicate_succ, takeM f l h]; have := ZTm ((l.take k).map f) (List.replicate (l.length - (k+1)) z) z (f l[k]); rw [hl] at this; rw [this, List.append_assoc]; rfl
theorem ZGl {α β:Type} (f:α→β) (z:β) (l:List α):Zsc f z l l.length = l.map f := by unfold Zsc; simp
theorem ZEl {α β γ:Type} (f:β→Option γ) (g:α→β) (h:α→γ) (e:∀ x, f (g x) = some (h x)):∀ l:List α, mapO f (l.map g) = some (l.map h)
  | [] => rfl
  | x :: l => by rw [List.map_cons, mapO, e x, Zd, ZEl f g h e l, Zd]; rfl
section
variable {D:List PT} (R:Rise D)
include R
theorem t2_sz {x:RU} (hx:szU x):sz 1000 ((gD D 0).2+x.2.1) := (Z9h (R.szs 0 R.n0).2 hx.1).mono (by omega)
theorem t3_sz {x:RU} (hx:szU x):sz 1000 ((gD D 0).2+x.2.1 * ((gD D (hiI D D.length)).2 - (gD D 0).2)) := (Z9h (R.szs 0 R.n0).2 (ZEf hx.1 (Z7b (R.szs _ (ZWi R)).2 (R.szs 0 R.n0).2))).mono (by omega)
theorem vF_sz {x:RU} (hx:szU x):sz 4000 (vF D x).1 := by
  unfold vF; split
  · exact (R.szs 0 R.n0).2.mono (by omega)
  · split
    · exact (R.szs _ (ZWi R)).2.mono (by omega)
    · split
      · exact Zym R (t2_sz R hx)
      · split
        · exact Zym R (t3_sz R hx)
        · exact (ZSq R).mono (by omega)
theorem fF_sz {x:RU} (hx:szU x):sz 4000 (fF D x).1 := by
  unfold fF; split
  · exact vF_sz R hx
  · exact ZNg.mono (by omega)
theorem Z8q {x:RU} (hx:szU x):Z2h (x.1, x.2.1, x.2.2.1, x.2.2.2) (gD D 0).2 (gD D (hiI D D.length)).2 D = some (vF D x) := by
  have z0 := (R.szs 0 R.n0).2; have zh := (R.szs _ (ZWi R)).2; have b:∀ n:Int, (x.1 == n) = decide (x.1 = n) := fun n => by rw [Bool.eq_iff_iff]; simp
  unfold Z2h vF; simp only [b]; by_cases h0:x.1 = 0
  · rw [decide_eq_true h0, ZH, if_pos h0]
  rw [decide_eq_false h0, ZD, if_neg h0]; by_cases h1:x.1 = 1
  · rw [decide_eq_true h1, ZH, if_pos h1]
  rw [decide_eq_false h1, ZD, if_neg h1]; by_cases h2:x.1 = 2
  · rw [decide_eq_true h2, ZH, if_pos h2, ZIk z0 hx.1 (by omega), Zd, Zim R (t2_sz R hx), Zd]
  rw [decide_eq_false h2, ZD, if_neg h2]; by_cases h3:x.1 = 3
  · rw [decide_eq_true h3, ZH, if_pos h3, Zog zh z0 (by omega), Zd, qmul_ok hx.1 (Z7b zh z0) (by omega), Zd, ZIk z0 (ZEf hx.1 (Z7b zh z0)) (by omega), Zd, Zim R (t3_sz R hx), Zd]
  rw [decide_eq_false h3, ZD, if_neg h3, ZTr R, Zd]
end
theorem Z2q {l r:List (Nat×Nat)} (hr:Z1d l = some r) (R:Rise (r.map pv)) {x:RU} (hx:szU x):Zrh l (x.1, x.2.1, x.2.2.1, x.2.2.2) = some (vF (r.map pv) x) := by
  have z0 := (R.szs 0 R.n0).2; have zh := (R.szs _ (ZWi R)).2; have hrl:(r.map pv).length = r.length := List.length_map ..; have b:∀ n:Int, (x.1 == n) = decide (x.1 = n) := fun n => by rw [Bool.eq_iff_iff]; simp
  unfold Zrh vF; rw [ZXp hr R, ← hrl]; simp only [b, Zd]; by_cases h0:x.1 = 0
  · rw [decide_eq_true h0, ZH, if_pos h0]
  rw [decide_eq_false h0, ZD, if_neg h0]; by_cases h1:x.1 = 1
  · rw [decide_eq_true h1, ZH, if_pos h1]
  rw [decide_eq_false h1, ZD, if_neg h1]; by_cases h2:x.1 = 2
  · rw [decide_eq_true h2, ZH, if_pos h2, ZZk z0 hx.1 (by omega), Zd, Zdm hr R (t2_sz R hx), Zd]
  rw [decide_eq_false h2, ZD, if_neg h2]; by_cases h3:x.1 = 3
  · rw [decide_eq_true h3, ZH, if_pos h3, Zrg zh z0 (by omega), Zd, Zcm hx.1 (Z7b zh z0) (by omega), Zd, ZZk z0 (ZEf hx.1 (Z7b zh z0)) (by omega), Zd, Zdm hr R (t3_sz R hx), Zd]
  rw [decide_eq_false h3, ZD, if_neg h3, Zfq hr R, Zd]
set_option maxRecDepth 100000
theorem Z0g {A:List RU} {i:Nat} (h:i < A.length):A[i] = gX A i := (Z0c (l := A) (d := ((0:Int), (0:Rat), (0:Rat), (0:Rat))) h).symm
theorem idxX {A:List RU} {i:Nat} (h:i < A.length):idx A (i:Int) = some (gX A i) := by rw [Zla h, Z0g h]
def szA (A:List RU):Prop := ∀ i, i < A.length→szU (gX A i)
def tF (D:List PT) (x:RU):Option Rat×Bool×Bool := (some (fF D x).1, (fF D x).2.1, (fF D x).2.2)
theorem Zkn {β:Type} {body:Int→Option (Int ⊕ (β ⊕ Unit))} (c:Nat→Int) (g:Int→β) (n:Nat) (hn:n < 2 ^ 62) (h1:∀ i, i < n→body (i:Int) = if c i ≠ 0 then some (.inr (.inl (g (c i)))) else some (.inl ((i:Int)+1))) (he:body (n:Int) = some (.inr (.inr ()))) :
    Zca body Zwa 0 = some (if cf c 0 n ≠ 0 then .inl (g (cf c 0 n)) else .inr ()) := by
  have key:∀ m F i, i+m = n→m < F→Zca body F (i:Int) = some (if cf c i m ≠ 0 then .inl (g (cf c i m)) else .inr ()) := by
    intro m
    induction m with
    | zero =>
      intro F i hi hF; obtain ⟨F, rfl⟩:∃ g, F = g+1 := ⟨F - 1, by omega⟩; obtain rfl:i = n := by omega
      unfold Zca; rw [he, Zd]; rfl
    | succ m ih =>
      intro F i hi hF; obtain ⟨F, rfl⟩:∃ g, F = g+1 := ⟨F - 1, by omega⟩; unfold Zca; rw [h1 i (by omega)]; unfold cf; by_cases h:c i ≠ 0
      · rw [if_pos h, Zd, if_pos h, if_pos h]
      · rw [if_neg h, Zd, if_neg h]; exact ih F (i+1) (by omega) (by omega)
  exact key n Zwa 0 (by omega) (Z1a (by omega))
section
variable {l:List (Nat×Nat)} {A:List RU}
theorem Zvr (hc:Zwc l ≠ 0) (h60:l.length≤60):Zmf l A = some ([], Zwc l) := by
  have nc:(Zwc l != 0) = true := by simpa using hc
  unfold Zmf; rw [ZBr hc h60]; simp only [Zd, nc, ZH]
theorem Z8p (hc:Zwc l ≠ 0) (h60:l.length≤60):Zef l A = some ([], Zwc l) := by
  have nc:(Zwc l != 0) = true := by simpa using hc
  unfold Zef; rw [ZLn h60]; simp only [Zd, nc, ZH]
theorem ZFr {D:List PT} (hr:ZGe l = some (D, 0)) (R:Rise D) (hA:szA A):Zmf l A = some (if 16 < A.length then ([], 4) else if ZBc A ≠ 0 then ([], ZBc A) else (A.map (fF D), 0)) := by
  have n0:((0:Int) != 0) = false := rfl; unfold Zmf; rw [hr]; simp only [Zd, n0, ZD]; by_cases h16:16 < A.length
  · rw [decide_eq_true (by omega), ZH, if_pos h16]
  rw [decide_eq_false (by omega), ZD, if_neg h16]; have i0:idx D (0:Int) = some (gD D 0) := Zed R R.n0; refine ZLa (y := if ZBc A ≠ 0 then .inr ([], ZBc A) else .inl ()) (ZLa (y := if ZBc A ≠ 0 then .inl (([]:List FN), ZBc A) else .inr ()) ?_ ?_) ?_
  · exact Zkn (fun i => cR (gX A i)) (fun e => (([]:List FN), e)) A.length (by omega) (fun i hi => by
      have z := hA i hi; rw [decide_eq_true (by omega), ZH, idxX hi, Zd, ZRq, Zd]; by_cases c:0≤(gX A i).1∧(gX A i).1≤4
      · rw [decide_eq_true c, Bool.not_true, ZD, Zae z.2.1 z.2.2 (by omega), Zd, gt4]; by_cases c2:(gX A i).2.2.2 < (gX A i).2.2.1
        · have e:cR (gX A i) = 7 := by unfold cR; rw [if_neg (fun k => k c), if_pos c2]
          rw [decide_eq_true c2, ZH, e, if_pos (by decide)]
        · have e:cR (gX A i) = 0 := by unfold cR; rw [if_neg (fun k => k c), if_neg c2]
          rw [decide_eq_false c2, ZD, e, if_neg (by decide), Zea (by omega) (by omega), Zd]
      · have e:cR (gX A i) = 1 := by unfold cR; rw [if_pos c]
        rw [decide_eq_false c, Bool.not_false, ZH, e, if_pos (by decide)]) (by rw [decide_eq_false (by omega), ZD])
  · by_cases hc:ZBc A ≠ 0
    · rw [if_pos hc, if_pos hc]
    · rw [if_neg hc, if_neg hc]
  · by_cases hc:ZBc A ≠ 0
    · rw [if_pos hc, if_pos hc]
    · rw [if_neg hc, if_neg hc]; simp only; rw [i0, Zd, Z0q R, Zd]; refine ZLa (y := A.map (fF D)) (ZLa (y := A.map (fF D)) (Zrc (fun k => ((A.take k).map (fF D), (k:Int))) A.length rfl (by omega) (fun k hk => ?_) ?_) rfl) rfl
      · have z := hA k hk; have zv := vF_sz R z; have e := takeM (fF D) A hk; rw [Z0g hk] at e; have hlen:((A.take k).map (fF D)).length = k := by simp; omega
        have rm:∀ x, Zcb 64 ((A.take k).map (fF D) ++ [x]) = some () := fun x => by unfold Zcb; rw [if_pos (by rw [List.length_append, hlen, List.length_singleton]; omega)]
        have ck:chk .i64 ((k:Int)+1) = some ((k+1:Nat):Int) := Zea (by omega) (by omega); simp only; rw [decide_eq_true (by omega), ZH, idxX hk]; simp only [Zd]; rw [Z8q R z]; simp only [Zd]; rw [e]; refine ZLa (y := (A.take k).map (fF D) ++ [fF D (gX A k)]) ?_ (by rw [ck, Zd]); by_cases h0:(vF D (gX A k)).2 = 0
        · have ef:fF D (gX A k) = ((vF D (gX A k)).1, true, decide ((gX A k).2.2.1≤(vF D (gX A k)).1∧(vF D (gX A k)).1≤(gX A k).2.2.2)) := by unfold fF; rw [if_pos h0]
          rw [show ((vF D (gX A k)).2 != 0) = false by simpa using h0, ZD, Zae zv z.2.1 (by omega), Zd, ge4, Zae zv z.2.2 (by omega), Zd, le4, ef]; by_cases c1:(gX A k).2.2.1≤(vF D (gX A k)).1
          · have ed:decide ((gX A k).2.2.1≤(vF D (gX A k)).1∧(vF D (gX A k)).1≤(gX A k).2.2.2) = decide ((vF D (gX A k)).1≤(gX A k).2.2.2) := decide_eq_decide.2 ⟨fun k => k.2, fun k => ⟨c1, k⟩⟩; rw [decide_eq_true c1, ZH, rm, Zd, Zd, ed]
          · rw [decide_eq_false c1, ZD, rm, Zd, Zd, decide_eq_false (fun k => c1 k.1)]
        · have ef:fF D (gX A k) = (0, false, false) := by unfold fF; rw [if_neg h0]
          rw [show ((vF D (gX A k)).2 != 0) = true by simpa using h0, ZH, rm, Zd, ef]
      · simp only; rw [decide_eq_false (by omega), ZD, List.take_length]
theorem Zyr {r:List (Nat×Nat)} (hc0:Zwc l = 0) (h60:l.length≤60) (hr:Z1d l = some r) (R:Rise (r.map pv)) (hA:szA A):Zef l A = some (if 16 < A.length then ([], 4) else if ZBc A ≠ 0 then ([], ZBc A) else (A.map (fF (r.map pv)), 0)) := by
  have n0:((0:Int) != 0) = false := rfl; unfold Zef; rw [ZLn h60, hc0]; simp only [Zd, n0, ZD]; by_cases h16:16 < A.length
  · rw [decide_eq_true (by omega), ZH, if_pos h16]
  rw [decide_eq_false (by omega), ZD, if_neg h16]; refine ZLa (y := if ZBc A ≠ 0 then .inr ([], ZBc A) else .inl ()) (ZLa (y := if ZBc A ≠ 0 then .inl (([]:List FN), ZBc A) else .inr ()) ?_ ?_) ?_
  · exact Zkn (fun i => cR (gX A i)) (fun e => (([]:List FN), e)) A.length (by omega) (fun i hi => by
      have z := hA i hi; rw [decide_eq_true (by omega), ZH, idxX hi]; simp only [Zd]; have t1:ifb (decide ((gX A i).1 < 0)) (some true) (some (decide (4 < (gX A i).1))) = some (decide (¬ (0≤(gX A i).1∧(gX A i).1≤4))) := by
        by_cases c:(gX A i).1 < 0
        · rw [decide_eq_true c, ZH, decide_eq_true (by omega)]
        · rw [decide_eq_false c, ZD]; exact congrArg some (decide_eq_decide.2 (by omega))
      rw [t1]; simp only [Zd]; by_cases c:0≤(gX A i).1∧(gX A i).1≤4
      · rw [decide_eq_false (fun k => k c), ZD, Zde z.2.1 z.2.2 (by omega), Zd, gt4]; by_cases c2:(gX A i).2.2.2 < (gX A i).2.2.1
        · have e:cR (gX A i) = 7 := by unfold cR; rw [if_neg (fun k => k c), if_pos c2]
          rw [decide_eq_true c2, ZH, e, if_pos (by decide)]
        · have e:cR (gX A i) = 0 := by unfold cR; rw [if_neg (fun k => k c), if_neg c2]
          rw [decide_eq_false c2, ZD, e, if_neg (by decide), Zea (by omega) (by omega), Zd]
      · have e:cR (gX A i) = 1 := by unfold cR; rw [if_pos c]
        rw [decide_eq_true c, ZH, e, if_pos (by decide)]) (by rw [decide_eq_false (by omega), ZD])
  · by_cases hc:ZBc A ≠ 0
    · rw [if_pos hc, if_pos hc]
    · rw [if_neg hc, if_neg hc]
  · by_cases hc:ZBc A ≠ 0
    · rw [if_pos hc, if_pos hc]
    · rw [if_neg hc, if_neg hc]; have hm:mk 64 (A.length:Int) (A.length:Int) = some () := by unfold mk; rw [if_pos ⟨by omega, by omega, by omega, by omega⟩]
      simp only; rw [hm, Zd]; refine ZLa (y := A.map (tF (r.map pv))) (ZLa (y := A.map (tF (r.map pv))) (Zrc (fun k => (Zsc (tF (r.map pv)) (none, false, false) A k, (k:Int))) A.length ?_ (by omega) (fun k hk => ?_) ?_) rfl) ?_
      · unfold Zsc; simp
      · have z := hA k hk; have zv := vF_sz R z; have hlen := Zwk (tF (r.map pv)) (none, false, false) A (k := k) (by omega); have e := Zqk (tF (r.map pv)) (none, false, false) A hk; rw [Z0g hk] at e; have ck:chk .i64 ((k:Int)+1) = some ((k+1:Nat):Int) := Zea (by omega) (by omega); have w0:Z9b 0 = some 0 := rfl; have i1:∃ y, idx (Zsc (tF (r.map pv)) (none, false, false) A k) (k:Int) = some y := ⟨_, Zla (by omega)⟩; obtain ⟨y1, i1⟩ := i1; have i2:∃ y, idx ((Zsc (tF (r.map pv)) (none, false, false) A k).set k (some 0, false, false)) (k:Int) = some y := ⟨_, Zla (by rw [List.length_set]; omega)⟩; obtain ⟨y2, i2⟩ := i2; simp only; rw [decide_eq_true (by omega), ZH, idxX hk]; simp only [Zd]; rw [Z2q hr R z]; simp only [Zd]; rw [w0]; simp only [Zd, Int.toNat_natCast]; rw [i1, i2]; simp only [Zd, List.set_set]; refine ZLa (y := Zsc (tF (r.map pv)) (none, false, false) A (k+1)) ?_ (by rw [ck, Zd]); rw [← e]; by_cases h0:(vF (r.map pv) (gX A k)).2 = 0
        · have ef:tF (r.map pv) (gX A k) = (some (vF (r.map pv) (gX A k)).1, true, decide ((gX A k).2.2.1≤(vF (r.map pv) (gX A k)).1∧(vF (r.map pv) (gX A k)).1≤(gX A k).2.2.2)) := by unfold tF fF; rw [if_pos h0]
          rw [show ((vF (r.map pv) (gX A k)).2 == 0) = true by simpa using h0, ZH, Zde zv z.2.1 (by omega), Zd, ge4, Zde zv z.2.2 (by omega)]; simp only [Zd]; rw [le4, ef]; by_cases c1:(gX A k).2.2.1≤(vF (r.map pv) (gX A k)).1
          · have ed:decide ((gX A k).2.2.1≤(vF (r.map pv) (gX A k)).1∧(vF (r.map pv) (gX A k)).1≤(gX A k).2.2.2) = decide ((vF (r.map pv) (gX A k)).1≤(gX A k).2.2.2) := decide_eq_decide.2 ⟨fun k => k.2, fun k => ⟨c1, k⟩⟩; rw [decide_eq_true c1, ZH, Zd, ed]
          · rw [decide_eq_false c1, ZD, Zd, decide_eq_false (fun k => c1 k.1)]
        · have ef:tF (r.map pv) (gX A k) = (some 0, false, false) := by unfold tF fF; rw [if_neg h0]
          rw [show ((vF (r.map pv) (gX A k)).2 == 0) = false by simpa using h0, ZD, ef]
      · simp only; rw [decide_eq_false (by omega), ZD, ZGl]
      · rw [ZEl (coP coQ (coP coI coI)) (tF (r.map pv)) (fF (r.map pv)) (fun x => rfl) A, Zd]
end
set_option maxRecDepth 100000
def toR (x:IRU):RU := (x.1, Zxd x.2.1, Zxd x.2.2.1, Zxd x.2.2.2)
def toRO (x:IRU):Int×Option Rat×Option Rat×Option Rat := (x.1, some (Zxd x.2.1), some (Zxd x.2.2.1), some (Zxd x.2.2.2))
theorem both_eq {l:List (Nat×Nat)} {A:List RU} (h60:l.length≤60) (h20:A.length≤20) (hA:szA A):∃ T:List FN×Int, Zmf l A = some T∧Zef l A = some T∧T.1.length≤20∧∀ e ∈ T.1, sz 4000 e.1 := by
  by_cases hc:Zwc l = 0
  · have H := pts_of hc h60; have n2 := (ZHl hc).1; have hr := Zyo n2 h60; have R := H.rise; have hrise := rise_eq H; have hlen:(l.map pv).length = l.length := List.length_map ..; rw [hlen] at R hrise; rw [← List.map_drop] at R hrise; generalize l.drop (loI (l.map pv) l.length) = r at *; refine ⟨_, ZFr hrise R hA, Zyr hc h60 hr R hA, ?_, ?_⟩
    · split
      · simp
      · split
        · simp
        · simpa using h20
    · split
      · intro e he; cases he
      · split
        · intro e he; cases he
        · intro e he; obtain ⟨x, hx, rfl⟩ := List.mem_map.1 he; obtain ⟨i, hi, rfl⟩ := List.getElem_of_mem hx; rw [Z0g hi]; exact fF_sz R (hA i hi)
  · exact ⟨_, Zvr hc h60, Z8p hc h60, by simp, fun e he => by cases he⟩
theorem Z4p (l:List (Nat×Nat)) (rules:List IRU) (h:∀ x ∈ rules, i64 x.2.1∧i64 x.2.2.1∧i64 x.2.2.2):Zxj l rules = some true := by
  unfold Zxj; rw [Zgq]; by_cases n1:60 < l.length
  · rw [decide_eq_true (by omega), ZH, Zd, ZH, Zd]
  rw [decide_eq_false (by omega), ZD]; by_cases n2:20 < rules.length
  · rw [decide_eq_true (by omega), Zd, ZH, Zd]
  rw [decide_eq_false (by omega), Zd, ZD]; have hm:mk 176 (rules.length:Int) (rules.length:Int) = some () := by unfold mk; rw [if_pos ⟨by omega, by omega, by omega, by omega⟩]
  rw [hm]; simp only [Zd]; have hA:szA (rules.map toR) := fun i hi => by
    have hi':i < rules.length := by simpa using hi
    rw [← Z0g hi, List.getElem_map]; obtain ⟨a, b, c⟩ := h _ (List.getElem_mem hi'); exact ⟨Zlk a, Zlk b, Zlk c⟩
  obtain ⟨T, t1, t2, t3, t4⟩ := both_eq (l := l) (A := rules.map toR) (by omega) (by rw [List.length_map]; omega) hA; refine ZLa (y := (rules.map toR, rules.map toRO)) (ZLa (y := (rules.map toR, rules.map toRO)) (Zrc (fun k => (Zsc toR (0, 0, 0, 0) rules k, Zsc toRO (0, none, none, none) rules k, (k:Int))) rules.length ?_ (by omega) (fun k hk => ?_) ?_) rfl) ?_
  · unfold Zsc; simp
  · have l1 := Zwk toR (0, 0, 0, 0) rules (k := k) (by omega); have l2 := Zwk toRO (0, none, none, none) rules (k := k) (by omega); unfold Zuf rofF; simp only [Zd, Int.toNat_natCast]; rw [decide_eq_true (by omega), ZH, Zla hk]; simp only [Zd]; rw [Zla (l := Zsc toR (0, 0, 0, 0) rules k) (i := k) (by omega), Zd, Zla (l := Zsc toRO (0, none, none, none) rules k) (i := k) (by omega), Zd, Zea (by omega) (by omega), Zd, ← Zqk toR _ rules hk, ← Zqk toRO _ rules hk]; rfl
  · simp only; rw [decide_eq_false (by omega), ZD, ZGl, ZGl]
  simp only; rw [ZOr l (by omega), Zd, t1, Zd, ZEl (coP coI (coP coQ (coP coQ coQ))) toRO toR (fun x => rfl) rules, Zd, t2]; simp only [Zd, bne_self_eq_false, ZD]; refine ZLa (y := .inl ()) (ZLa (y := .inr ()) (Zrc (fun k => (k:Int)) T.1.length rfl (by omega) (fun k hk => ?_) ?_) rfl) rfl
  · have z := t4 _ (List.getElem_mem hk); rw [decide_eq_true (by omega), ZH, Zla hk]; simp only [Zd, bne_self_eq_false, ZD]; rw [is1_ok z (by omega)]; simp only [Zd, Bool.not_true, ZD]; rw [Zea (by omega) (by omega), Zd]; rfl
  · rw [decide_eq_false (by omega), ZD]
theorem Zcr {α:Type} {A:Rep α} {v:Zf} {cs:List Value} {l:List α} (h:(ZK A).rel v cs l) {x:α} (hx:x ∈ l):∃ c, A.rel v c x := by
  obtain ⟨q, cap, rfl, h1, h2, h3⟩ := h; rcases h3 with rfl | ⟨b, off, c, T, fr, e, hb, hr⟩
  · cases hx
  · obtain ⟨i, hi, rfl⟩ := List.getElem_of_mem hx; exact ⟨_, ZWa hr (List.getElem?_eq_getElem hi)⟩
theorem ZDl {v:Zf} {c:List Value} {r:Int×Int} (h:Rep.rel (Zl (Ze .i64) (Ze .i64)) v c r):i64 r := by
  obtain ⟨c1, c2, _, ⟨_, h1⟩, _, h2⟩ := h; exact ⟨ZDb.1 h1, ZDb.1 h2⟩
end Go.Eng
namespace Go.Eng
open Go.RowKit Go.WideShapes Go.ChangeShapes
theorem Z8r {P:Program} {t:TypeId} {f0 f1 f2 f3:Field} {α β γ δ:Type} {A:Rep α} {B:Rep β} {C:Rep γ} {D:Rep δ} (ht:P.underlying t = some (.struct #[f0, f1, f2, f3])) (hA:Zic P f0.type A) (hB:Zic P f1.type B) (hC:Zic P f2.type C) (hD:Zic P f3.type D)
    (o0:f0.offset = 0) (c0:P.cellsOf f0.type = A.n) (o1:f1.offset = A.n) (c1:P.cellsOf f1.type = B.n) (o2:f2.offset = A.n+B.n) (c2:P.cellsOf f2.type = C.n) (o3:f3.offset = A.n+B.n+C.n) (c3:P.cellsOf f3.type = D.n) (ct:P.cellsOf t = A.n+B.n+C.n+D.n):Zic P t (Zl A (Zl B (Zl C D))) := by
  intro H enc W fuel cs x h; obtain ⟨xs, n, _, _, hl, hx, hf⟩ := DataW.trod_struct ht h; have hx:xs.length = 4 := hx; have h0 := hf 0 f0 rfl; have h1 := hf 1 f1 rfl; have h2 := hf 2 f2 rfl; have h3 := hf 3 f3 rfl; rw [List.getElem?_eq_getElem (by omega)] at h0 h1 h2 h3; rw [o0, c0, List.drop_zero] at h0; rw [o1, c1] at h1; rw [o2, c2] at h2; rw [o3, c3] at h3; obtain ⟨a, ha⟩ := hA _ _ _ _ _ _ h0; obtain ⟨b, hb⟩ := hB _ _ _ _ _ _ h1; obtain ⟨c, hc⟩ := hC _ _ _ _ _ _ h2; obtain ⟨d, hd⟩ := hD _ _ _ _ _ _ h3; rw [List.take_of_length_le (by rw [List.length_drop, hl, ct]; omega)] at hd; refine ⟨(a, b, c, d), cs.take A.n, cs.drop A.n, (List.take_append_drop _ _).symm, ha, (cs.drop A.n).take B.n, cs.drop (A.n+B.n), ?_, hb, (cs.drop (A.n+B.n)).take C.n, cs.drop (A.n+B.n+C.n), ?_, hc, hd⟩
  · rw [← List.drop_drop, List.take_append_drop]
  · have e := List.take_append_drop C.n (cs.drop (A.n+B.n)); rw [List.drop_drop] at e; exact e.symm
theorem ZFm {P:Program} {t:TypeId} {k:FloatKind} (ht:P.underlying t = some (.float k)):Zic P t (ZB k) := by
  intro H enc W fuel cs x h
  cases fuel with
  | zero => simp [DataW.trod] at h
  | succ n =>
    unfold DataW.trod at h; rw [ht] at h; split at h <;> simp_all; rename_i k2 z heq; obtain ⟨⟨rfl, hw⟩, _⟩ := h; refine ⟨z, rfl, ?_⟩
    cases k2
    · have hw := of_decide_eq_true (show decide (z < 2 ^ 32) = true from hw); exact Nat.lt_trans hw (by decide)
    · have hw := of_decide_eq_true (show decide (z < 2 ^ 64) = true from hw); exact hw
end Go.Eng
namespace Go.Eng
open Go.RowKit
theorem Zh {α:Type _} {a b:α} (h:some a = some b):a = b := Option.some.inj h
theorem ZA (b:Bool):b = true ∨ b = false := (Bool.eq_false_or_eq_true b)
theorem leT {a b c:Zf} (h:a.le b) (k:b.le c):a.le c := Zf.le_trans h k
theorem leR (v:Zf):v.le v := Zf.le_refl v
theorem Zo {P:Program} {Q:Exit→Act→World→Prop} {a:Act} {w:World} {id:Nat} {l:List Oper} (h:wpList P l.toArray Q l a w):(Code.region id l.toArray false).wp P Q a w := wp_region_lit h
theorem Zi {P:Program} {Q:Exit→Act→World→Prop} {a:Act} {w:World} {x y:Code} (h:∀ K:Act→World→Prop, (∀ a w, y.wp P Q a w→K a w)→x.wp P (Exit.then K Q) a w):(Code.seq x y).wp P Q a w := wp_seq_k h
theorem Zp {α:Type} {A:Rep α} {v v':Zf} {cs:List Value} {x:α} (hv:v.le v') (h:A.rel v cs x):A.rel v' cs x := A.mono hv h
theorem Z1 {α:Type} (A:Rep α) {v:Zf} {cs:List Value} {x:α} (h:A.rel v cs x):cs.all Z7a = true := A.flat h
theorem Atm {v v':Zf} {b off:Nat} {cs:List Value} (h:v.le v') (k:At v b off cs):At v' b off cs := At.mono h k
end Go.Eng
