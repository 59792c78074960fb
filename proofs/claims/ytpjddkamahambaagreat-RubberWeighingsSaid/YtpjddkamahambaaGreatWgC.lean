/- Lemmas towards the statement: the engine of the walks, the functions' models, laws and walks, part 3. Conditions: as each states. -/
import Derived.Laws.IdiomStrings
import Derived.Lib.AppendStr
import Derived.Lib.Builder
import Derived.Lib.UnsafeStr
import Derived.Test.YtpjddkamahambaaGreatProg
import Derived.Test.YtpjddkamahambaaGreatWgB
set_option linter.all false
set_option maxRecDepth 100000
namespace Go.Eng
def Z8a (n:Nat):Prop := (Zl 4294967296 n).length≤68719476736
instance (n:Nat):Decidable (Z8a n) := inferInstanceAs (Decidable (_≤_))
def Zfd (n m:Nat):Option (Nat×Nat) := if Z8a n∧Z8a m∧m ≠ 0 then some (n / m, n % m) else none
def rgcF (n m:Nat):Option Nat := if Z8a n∧Z8a m then some (Nat.gcd n m) else none
def ZGc (s:Bool) (n d:Nat):Option Rat := if Z8a n∧Z8a d∧d ≠ 0 then some (mkRat (sgn s n) d) else none
def ZBf (n:Nat):Option (List UInt8) := if Z8a n then some (Zyb n) else none
def Zwd (x:Rat):Option Rat := if okQ x then some (-x) else none
def ZRe (x y:Rat):Option Rat := if smQ x∧smQ y then some (x+y) else none
def ZFh (x y:Rat):Option Rat := if smQ x∧smQ y then some (x - y) else none
def Zof (x y:Rat):Option Int := if smQ x∧smQ y then some (x - y).num.sign else none
def ZXg (x:Rat):Option (List UInt8) := if okQ x then some (txtQ x) else none
def ZQd (x:Rat):Option (List UInt8) := if okQ x then some (txtQ x) else none
def Zeg (n:Nat):Option (List UInt8) := if okN n then some (Zyb n) else none
def Z7f (s:List UInt8) (c:Int):Option (List UInt8) := if 0≤c∧s.length * c.toNat≤140737488355328 then some (List.replicate c.toNat s).flatten else none
noncomputable def Zeh (a:Nat) (b:Nat):Option (Nat×Nat) :=
 bnd (Zod a b) fun t =>
 ifb (decide (t < (0:Int)))
 (some (((0:Nat),a)))
 (ifb (((((Zl 4294967296 b)).length:Int)) == ((1:Int)))
 (bnd (idx ((Zl 4294967296 b)) ((0:Int))) fun u =>
 bnd (ZOe a u) fun l =>
 bnd (Zrd (IntKind.u64.wrap l.2)) fun v =>
 some ((l.1,v)))
 (bnd (chk .i64 (((32:Int)) * ((((Zl 4294967296 b)).length:Int)))) fun w =>
 bnd (ZKf b) fun x =>
 bnd (chk .i64 (w - x)) fun i =>
 bnd (Zfe b i) fun c =>
 bnd (Zfe a i) fun y =>
 bnd (chk .i64 (((((Zl 4294967296 a)).length:Int)) - ((((Zl 4294967296 c)).length:Int)))) fun z =>
 bnd (chk .i64 (z+((2:Int)))) fun g =>
 bnd (mk 4 g g) fun ae =>
 bnd (chk .i64 (((((List.replicate (g).toNat ((0:Int)))).length:Int)) - ((1:Int)))) fun A =>
 bnd (bnd (ZZ (fun s:Nat×(List Int)×Int=>match s with
 | (e,h,d) =>
 (ifb (decide ((0:Int)≤d))
 (bnd (bnd (ifb (decide (d < (((Zl 4294967296 e)).length:Int)))
 (bnd (Zob ((Zl 4294967296 e)) d ((((Zl 4294967296 e)).length:Int))) fun B =>
 some B)
 (some (([]:(List Int)))))
 (fun (f:(List Int)) =>
 (bnd (ZPc f) fun C =>
 bnd (Zod C c) fun D =>
 ifb (decide (D < (0:Int)))
 (some ((e,h)))
 (bnd (chk .i64 (((((Zl 4294967296 c)).length:Int)) - ((1:Int)))) fun E =>
 bnd (idx f E) fun m =>
 bnd (ifb (decide ((((Zl 4294967296 c)).length:Int) < (f.length:Int)))
 (bnd (idx f ((((Zl 4294967296 c)).length:Int))) fun F =>
 bnd (ZXb .u64 (IntKind.u64.wrap F) ((32:Int))) fun G =>
 some (orI .u64 (IntKind.u64.wrap m) G))
 (some (IntKind.u64.wrap m)))
 (fun (H:Int) =>
 (bnd (chk .i64 (((((Zl 4294967296 c)).length:Int)) - ((1:Int)))) fun I =>
 bnd (idx ((Zl 4294967296 c)) I) fun J =>
 bnd (quo .u64 H (IntKind.u64.wrap J)) fun n =>
 bnd (ifb (decide ((4294967295:Int) < n))
 (some ((4294967295:Int)))
 (some n))
 (fun (o:Int) =>
 (bnd (Zrd o) fun K =>
 bnd (Z7b c K) fun L =>
 bnd (bnd (ZZ (fun s:Int×Nat=>match s with
 | (q,j) =>
 (bnd (ZPc f) fun M =>
 bnd (Zod j M) fun N =>
 ifb (decide ((0:Int) < N))
 (bnd (ZDc j c) fun O =>
 some (.inl ((IntKind.u64.wrap (q - ((1:Int))),O))))
 (some (.inr ((q,j)))))) Zda ((o,L)))
 (fun (p:Int×Nat)=>match p with
 | (P,Q) =>
 (some ((P,Q)))))
 (fun (p:Int×Nat)=>match p with
 | (R,S) =>
 (bnd (idx h d) fun af =>
 bnd (Zob ((Zl 4294967296 e)) ((0:Int)) d) fun k =>
 bnd (Z3a 4 (([]:(List Int)) ++ k)) fun ag =>
 bnd (ZPc f) fun T =>
 bnd (ZDc T S) fun r =>
 bnd (Z3a 4 ((([]:(List Int)) ++ k) ++ ((Zl 4294967296 r)))) fun ah =>
 bnd (Z0b (((([]:(List Int)) ++ k) ++ ((Zl 4294967296 r))))) fun U =>
 some ((U,(h.set (d).toNat (IntKind.u32.wrap R))))))))))))))
 (fun (p:Nat×(List Int))=>match p with
 | (V,W) =>
 (bnd (chk .i64 (d - ((1:Int)))) fun X =>
 some (.inl ((V,W,X))))))
 (some (.inr ((e,h)))))) Zda ((y,(List.replicate (g).toNat ((0:Int))),A)))
 (fun (p:Nat×(List Int))=>match p with
 | (Y,Z) =>
 (some ((Y,Z)))))
 (fun (p:Nat×(List Int))=>match p with
 | (aa,ab) =>
 (bnd (Z0b ab) fun ac =>
 bnd (ZRf aa i) fun ad =>
 some ((ac,ad))))))
theorem ZXj {B n:Nat} (hB:2≤B) (w:Nat):(Zl B n).drop w = Zl B (n / B ^ w) := by
  induction w generalizing n with
  | zero => rw [List.drop_zero, Nat.pow_zero, Nat.div_one]
  | succ w ih =>
    by_cases h:n = 0
    · subst h; rw [Z5a, Nat.zero_div, Z5a]; rfl
    · rw [ZYc hB h, List.drop_succ_cons, ih, Nat.div_div_eq_div_mul, Nat.pow_succ, Nat.mul_comm B]
theorem ZUq {B n:Nat} (hB:2≤B) (w:Nat) (h:w≤(Zl B n).length):val B ((Zl B n).take w) = n % B ^ w := by
  have h1 := Zmd B (Zl B n) w h; rw [Z6a hB, Zvl hB] at h1; have h2 := Nat.mod_add_div n (B ^ w); omega
theorem ZTj {B n i:Nat} (hB:2≤B) (h:i < (Zl B n).length):idx (Zl B n) (i:Int) = some ((n / B ^ i % B:Nat):Int) := by
  rw [Z5 h]; congr 1; have h1 := List.drop_eq_getElem_cons h; rw [ZXj hB] at h1; have h2:n / B ^ i ≠ 0 := by
    intro h2; rw [h2, Z5a] at h1
    cases h1
  rw [ZYc hB h2] at h1; exact (List.cons.inj h1).1.symm
theorem Zmq {B n L:Nat} (hB:2≤B) (h1:B ^ L≤n) (h2:n < B ^ (L+1)):(Zl B n).length = L+1 := by
  have h3 := Zcf hB h2; have h4 := ZMc hB n; have h5:¬ (Zl B n).length≤L := by
    intro h5; have := Nat.pow_le_pow_right (n := B) (by omega) h5; omega
  omega
theorem ZEl {n m:Nat}:decide (Zbb n m < 0) = decide (n < m) := by
  unfold Zbb; by_cases h:n < m
  · rw [if_pos h, decide_eq_true h]; rfl
  · rw [if_neg h, decide_eq_false h]; split <;> rfl
theorem ZLm {n m:Nat}:decide (0 < Zbb n m) = decide (m < n) := by
  unfold Zbb; by_cases h:n < m
  · rw [if_pos h, decide_eq_false (show ¬ m < n by omega)]; rfl
  · rw [if_neg h]; by_cases h2:m < n
    · rw [if_pos h2, decide_eq_true h2]; rfl
    · rw [if_neg h2, decide_eq_false h2]; rfl
theorem Zuh {n k:Nat} (h:n < 4294967296 ^ k):(Zl 4294967296 n).length≤k := Zcf (by decide) h
theorem quo_end {a b q R rest:Nat} (hb:0 < b) (hR:0 < R) (h:rest < b * R) (e:a * R = rest+b * R * q):q = a / b∧rest / R = a % b := by
  have h1:a * R / (b * R) = q := by rw [e, Nat.add_mul_div_left _ _ (Nat.mul_pos hb hR), Nat.div_eq_of_lt h, Nat.zero_add]
  rw [Nat.mul_div_mul_right _ _ hR] at h1; have h2:a * R % (b * R) = rest := by rw [e, Nat.add_mul_mod_self_left, Nat.mod_eq_of_lt h]
  rw [Nat.mul_mod_mul_right] at h2; exact ⟨h1.symm, by rw [← h2, Nat.mul_div_cancel _ hR]⟩
theorem Zwp {a b:Nat} (ha:Z8a a) (hb:Z8a b) (hb0:b ≠ 0):Zeh a b = some (a / b, a % b) := by
  unfold Zeh Zod; rw [Zh, ZEl]; by_cases hab:a < b
  · rw [decide_eq_true hab, ZM, Nat.div_eq_of_lt hab, Nat.mod_eq_of_lt hab]
  rw [decide_eq_false hab, ZI]; unfold Z8a at ha hb; have hLpos := List.length_pos_iff.2 ((Zdd (n := b) (B := 4294967296) (by decide)).2 hb0); by_cases hL1:(Zl 4294967296 b).length = 1
  · rw [hL1]; have hb1:b < 4294967296 := by
      have := ZMc (B := 4294967296) (by decide) b; rw [hL1] at this; simpa using this
    rw [show (((1:Nat):Int) == 1) = true from rfl, ZM, ZIk (by decide) hb0 hb1, Zh]; unfold ZOe Zrd; rw [if_pos ⟨by unfold ZWa; omega, by omega⟩, Zh]; simp only [Int.toNat_natCast]; have hm := Nat.mod_lt a (Nat.pos_of_ne_zero hb0); rw [ZNb (by omega), Int.toNat_natCast]; rfl
  have e1:(((Zl 4294967296 b).length:Int) == 1) = false := beq_false_of_ne (by omega); rw [e1, ZI]; obtain ⟨l, hl⟩:∃ l, (Zl 4294967296 b).length = l+1 := ⟨(Zl 4294967296 b).length - 1, by omega⟩; have hbge:4294967296 ^ l≤b := by have := ZAh (B := 4294967296) (by decide) hb0; rw [hl] at this; simpa using this
  have hblt:b < 4294967296 ^ (l+1) := by have := ZMc (B := 4294967296) (by decide) b; rwa [hl] at this
  have hp:∀ k, (4294967296:Nat) ^ k = 2 ^ (32 * k) := fun k => by rw [Nat.pow_mul]
  obtain ⟨c, hc⟩ := Zef hb0; obtain ⟨hc1, hc2⟩ := (Zhf hb0).1 hc; have hcl:32 * l≤c := by
    have h1:2 ^ (32 * l) < 2 ^ (c+1) := by rw [← hp]; omega
    have := (Nat.pow_lt_pow_iff_right (by omega:1 < 2)).1 h1; omega
  have hcu:c+1≤32 * (l+1) := by
    have h1:2 ^ c < 2 ^ (32 * (l+1)) := by rw [← hp]; omega
    have := (Nat.pow_lt_pow_iff_right (by omega:1 < 2)).1 h1; omega
  obtain ⟨up, hup⟩:∃ up, up+(c+1) = 32 * (l+1) := ⟨32 * (l+1) - (c+1), by omega⟩; have hup31:up≤31 := by omega
  have hR:0 < 2 ^ up := Nat.pow_pos (by omega); have hR31:2 ^ up≤2147483648 := Nat.le_trans (Nat.pow_le_pow_right (by omega) hup31) (by decide); have c1:chk .i64 (32 * ((l+1:Nat):Int)) = some ((32 * (l+1):Nat):Int) := by rw [show (32 * ((l+1:Nat):Int)) = ((32 * (l+1):Nat):Int) by omega, Zcb (by omega)]
  have c2:ZKf b = some (((c+1:Nat)):Int) := by unfold ZKf; rw [if_pos (by unfold ZWa; omega), hc]
  have c3:chk .i64 (((32 * (l+1):Nat):Int) - ((c+1:Nat):Int)) = some (up:Int) := by rw [show ((32 * (l+1):Nat):Int) - ((c+1:Nat):Int) = (up:Int) by omega, Zcb (by omega)]
  have c4:Zfe b (up:Int) = some (b * 2 ^ up) := by unfold Zfe; rw [if_pos ⟨by unfold ZWa; omega, by omega, by omega⟩, Int.toNat_natCast]
  have c5:Zfe a (up:Int) = some (a * 2 ^ up) := by unfold Zfe; rw [if_pos ⟨by unfold ZWa; omega, by omega, by omega⟩, Int.toNat_natCast]
  rw [hl, c1, Zh, c2, Zh, c3, Zh, c4, Zh, c5, Zh]; have hv1:2 ^ (32 * l+31)≤b * 2 ^ up := by
    have h1 := Nat.mul_le_mul_right (2 ^ up) hc1; rw [← Nat.pow_add] at h1; have h2:c+up = 32 * l+31 := by omega
    rw [h2] at h1; exact h1
  have hv2:b * 2 ^ up < 4294967296 ^ (l+1) := by
    have h1 := Nat.mul_lt_mul_of_pos_right hc2 hR; rw [← Nat.pow_add] at h1; have h2:c+1+up = 32 * (l+1) := by omega
    rw [h2, ← hp] at h1; exact h1
  have hvge:4294967296 ^ l * 2147483648≤b * 2 ^ up := by
    rw [hp, show (2147483648:Nat) = 2 ^ 31 from rfl, ← Nat.pow_add]; exact hv1
  have hdm:∀ n q:Nat, q ≠ 0→n = q * (n / q)+n % q∧n % q < q := fun n q h => ⟨(Nat.div_add_mod n q).symm, Nat.mod_lt _ (by omega)⟩; obtain ⟨v, hv⟩:∃ v, v = b * 2 ^ up := ⟨_, rfl⟩; rw [← hv] at hv1 hv2 hvge ⊢; have hBl:0 < 4294967296 ^ l := Nat.pow_pos (by omega); have hlv:(Zl 4294967296 v).length = l+1 := Zmq (by decide) (by omega) hv2; have hv0:0 < v := by omega
  obtain ⟨M, hM⟩:∃ M, M = (Zl 4294967296 a).length := ⟨_, rfl⟩; have hML:l+1≤M := by rw [hM, ← hl]; exact Zid (by decide) (by omega)
  have haM:a < 4294967296 ^ M := by rw [hM]; exact ZMc (by decide) a
  rw [hlv, ← hM]; rw [← hM] at ha; have c6:chk .i64 ((M:Int) - ((l+1:Nat):Int)) = some ((M - (l+1):Nat):Int) := by rw [show (M:Int) - ((l+1:Nat):Int) = ((M - (l+1):Nat):Int) by omega, Zcb (by omega)]
  obtain ⟨K, hK⟩:∃ K, K+(l+1) = M+2 := ⟨M - (l+1)+2, by omega⟩; have c7:chk .i64 (((M - (l+1):Nat):Int)+2) = some (K:Int) := by rw [show ((M - (l+1):Nat):Int)+2 = (K:Int) by omega, Zcb (by omega)]
  obtain ⟨u, hu⟩ := Zld (b := 4) (l := (K:Int)) (c := (K:Int)) (by omega) (by omega) (by omega) (by omega); rw [c6, Zh, c7, Zh, hu, Zh, Int.toNat_natCast, List.length_replicate, Zsa (by omega) (by omega), Zh, Z1a]; obtain ⟨ra, hra⟩:∃ ra, ra = a * 2 ^ up := ⟨_, rfl⟩; rw [← hra]; have hraM:ra < 4294967296 ^ (M+1) := by
    rw [hra, Nat.pow_succ]; exact Nat.mul_lt_mul'' haM (by omega)
  have hra0:ra < v * 4294967296 ^ K := by
    have h1:4294967296 ^ l * 2147483648 * 4294967296 ^ K≤v * 4294967296 ^ K := Nat.mul_le_mul_right _ hvge; have h2:4294967296 ^ l * 2147483648 * 4294967296 ^ K = 4294967296 ^ (M+1) * 2147483648 := by
      rw [Nat.mul_right_comm, ← Nat.pow_add, show l+K = M+1 by omega]
    omega
  refine Zdb (fun s:Nat×(List Int)×Int => ∃ k:Nat, s.2.2 = (k:Int) - 1∧k≤K∧s.2.1.length = K∧Dig 4294967296 s.2.1∧(∀ i (h:i < s.2.1.length), i < k→s.2.1[i] = 0) ∧
      s.1 < v * 4294967296 ^ k∧s.1≤ra∧ra = s.1+v * (4294967296 ^ k * val 4294967296 (s.2.1.drop k))) (fun s => (s.2.2+1).toNat)
    (fun r:Nat×List Int => r.1 < v∧r.1≤ra∧ra = r.1+v * val 4294967296 r.2) ⟨K, rfl, by omega, by simp, Dig.replicate _ (by omega), by intro i h _; simp, hra0, Nat.le_refl _, by simp [List.drop_eq_nil_of_le, val]⟩ (ZXa (by simp; omega)) ?_ ?_
  · rintro ⟨rest, out, j⟩ ⟨k, hj, hk, ho, hd, hz, hlt, hle, he⟩; simp only at hj ho hd hz hlt hle he ⊢; subst hj; by_cases hk0:k = 0
    · right; subst hk0; rw [show decide ((0:Int)≤((0:Nat):Int) - 1) = false from rfl, ZI]; refine ⟨_, rfl, by simpa using hlt, hle, by simpa using he⟩
    left; obtain ⟨j, rfl⟩:∃ j, k = j+1 := ⟨k - 1, by omega⟩; have ej:((j+1:Nat):Int) - 1 = (j:Int) := by omega
    rw [ej, decide_eq_true (show (0:Int)≤(j:Int) by omega), ZM]; have hjo:j < out.length := by omega
    have cA:ifb (decide ((j:Int) < ((Zl 4294967296 rest).length:Int))) (bnd (Zob (Zl 4294967296 rest) (j:Int) ((Zl 4294967296 rest).length:Int)) fun y654 => some y654) (some ([]:List Int)) = some (Zl 4294967296 (rest / 4294967296 ^ j)) := by
      rw [← ZXj (by decide)]; by_cases h:j < (Zl 4294967296 rest).length
      · rw [decide_eq_true (by omega), ZM]; have:Zob (Zl 4294967296 rest) (j:Int) ((Zl 4294967296 rest).length:Int) = some ((Zl 4294967296 rest).drop j) := by
          unfold Zob; rw [if_pos ⟨by omega, by omega, by omega⟩]; simp
        rw [this, Zh]
      · rw [decide_eq_false (by omega), ZI, List.drop_eq_nil_of_le (by omega)]
    rw [cA, Zh, ZKl, Zh, Zh, ZEl]; obtain ⟨p, hpp⟩:∃ p, p = rest / 4294967296 ^ j := ⟨_, rfl⟩; rw [← hpp]; have hBj:0 < 4294967296 ^ j := Nat.pow_pos (by omega); have hrp := Nat.div_add_mod rest (4294967296 ^ j); have hrm := Nat.mod_lt rest hBj; rw [← hpp] at hrp; have hpv:p < v * 4294967296 := by
      rw [hpp, Nat.div_lt_iff_lt_mul hBj]; rw [Nat.pow_succ] at hlt; rw [Nat.mul_assoc, Nat.mul_comm 4294967296]; exact hlt
    have cz:out[j] = 0 := hz j hjo (by omega); have hdrop:val 4294967296 (out.drop j) = 4294967296 * val 4294967296 (out.drop (j+1)) := by rw [ZAc hjo, cz]; simp
    have cend:chk .i64 ((j:Int) - 1) = some ((j:Int) - 1) := Zsa (by omega) (by omega); by_cases hpl:p < v
    · rw [decide_eq_true hpl, ZM, Zh]; simp only; rw [cend, Zh]; refine ⟨_, rfl, ⟨j, rfl, by omega, ho, hd, fun i h hi => hz i h (by omega), ?_, hle, ?_⟩, by simp⟩
      · have := Nat.mul_le_mul_left (4294967296 ^ j) (show p+1≤v by omega); rw [Nat.mul_add, Nat.mul_comm (4294967296 ^ j) v] at this; simp only; omega
      · simp only; rw [hdrop, he, Nat.pow_succ]; grind
    rw [decide_eq_false hpl, ZI]; have hp1:p < 4294967296 ^ (l+1+1) := by
      rw [Nat.pow_succ]; exact Nat.lt_trans hpv (Nat.mul_lt_mul_of_pos_right hv2 (by omega))
    have hplen1 := Zuh hp1; have hplen0:l+1≤(Zl 4294967296 p).length := by rw [← hlv]; exact Zid (by decide) (by omega)
    have cl:chk .i64 (((l+1:Nat):Int) - 1) = some (l:Int) := by rw [show ((l+1:Nat):Int) - 1 = (l:Int) by omega, Zcb (by omega)]
    rw [cl, Zh, ZTj (by decide) (by omega:l < (Zl 4294967296 p).length), Zh]; obtain ⟨h, hh⟩:∃ h, h = p / 4294967296 ^ l := ⟨_, rfl⟩; have hh64:h < 18446744073709551616 := by
      rw [hh]; apply Nat.div_lt_of_lt_mul; rw [Nat.pow_succ, Nat.pow_succ] at hp1; rw [show (18446744073709551616:Nat) = 4294967296 * 4294967296 from rfl, ← Nat.mul_assoc]; exact hp1
    rw [← hh]; have cH:ifb (decide (((l+1:Nat):Int) < ((Zl 4294967296 p).length:Int))) (bnd (idx (Zl 4294967296 p) ((l+1:Nat):Int)) fun y641 => bnd (ZXb .u64 (IntKind.u64.wrap y641) 32) fun y647 => some (orI .u64 (IntKind.u64.wrap ((h % 4294967296:Nat):Int)) y647)) (some (IntKind.u64.wrap ((h % 4294967296:Nat):Int))) = some (h:Int) := by
      rw [ZNb (by omega)]; have hhd:p / 4294967296 ^ (l+1) = h / 4294967296 := by rw [hh, Nat.div_div_eq_div_mul, Nat.pow_succ]
      by_cases hq:l+1 < (Zl 4294967296 p).length
      · rw [decide_eq_true (by omega), ZM, ZTj (by decide) hq, Zh, hhd, ZNb (by omega)]; have hx:h / 4294967296 % 4294967296 = h / 4294967296 := Nat.mod_eq_of_lt (by omega); rw [hx]; have e1:ZXb .u64 ((h / 4294967296:Nat):Int) 32 = some ((h / 4294967296 * 2 ^ 32:Nat):Int) := by
          have := Z1d (x := h / 4294967296) (k := 32) (by omega); rw [Nat.mod_eq_of_lt (by omega)] at this; exact this
        have e2:orI .u64 ((h % 4294967296:Nat):Int) ((h / 4294967296 * 2 ^ 32:Nat):Int) = (h:Int) := by
          have hc:orI .u64 ((h % 4294967296:Nat):Int) ((h / 4294967296 * 2 ^ 32:Nat):Int) = orI .u64 ((h / 4294967296 * 2 ^ 32:Nat):Int) ((h % 4294967296:Nat):Int) := by unfold orI; rw [BitVec.or_comm]
          rw [hc, Zpf (k := 32) (by omega) (by omega)]; exact congrArg (fun q:Nat => (q:Int)) (by omega)
        rw [e1, Zh, e2]
      · rw [decide_eq_false (by omega), ZI]; have h0:p / 4294967296 ^ (l+1) = 0 := Nat.div_eq_of_lt (by
          have := ZMc (B := 4294967296) (by decide) p; have e:(Zl 4294967296 p).length = l+1 := by omega
          rwa [e] at this)
        rw [hhd] at h0; exact congrArg (fun q:Nat => some (q:Int)) (by omega)
    rw [cH, Zh, Zh, ZTj (by decide) (by omega:l < (Zl 4294967296 v).length), Zh]; obtain ⟨t, ht⟩:∃ t, t = v / 4294967296 ^ l := ⟨_, rfl⟩; have ht1:2147483648≤t := by rw [ht, Nat.le_div_iff_mul_le hBl, Nat.mul_comm]; exact hvge
    have ht2:t < 4294967296 := by rw [ht]; apply Nat.div_lt_of_lt_mul; rw [Nat.pow_succ] at hv2; exact hv2
    rw [← ht, Nat.mod_eq_of_lt ht2, ZNb (by omega), ZPf (by omega) hh64, Zh]; have hq0:p / v≤h / t := by
      rw [hh, ht, Nat.div_div_eq_div_mul]; apply Nat.div_le_div_left
      · exact Nat.mul_div_le v (4294967296 ^ l)
      · exact Nat.mul_pos hBl (by rw [← ht]; omega)
    have hqB:p / v < 4294967296 := (Nat.div_lt_iff_lt_mul hv0).2 (by rw [Nat.mul_comm]; exact hpv); obtain ⟨q, hq⟩:∃ q, q = p / v := ⟨_, rfl⟩; rw [← hq] at hq0 hqB; have hpq := Nat.div_add_mod p v; have hpr := Nat.mod_lt p hv0; rw [← hq] at hpq; obtain ⟨g, hg1, hg2, cG⟩:∃ g:Nat, q≤g∧g < 4294967296∧ifb (decide ((4294967295:Int) < ((h / t:Nat):Int))) (some (4294967295:Int)) (some ((h / t:Nat):Int)) = some (g:Int) := by
      by_cases hx:4294967295 < h / t
      · exact ⟨4294967295, by omega, by omega, by rw [decide_eq_true (by omega), ZM]; rfl⟩
      · exact ⟨h / t, hq0, by omega, by rw [decide_eq_false (by omega), ZI]⟩
    have okp:∀ n, n < 4294967296 ^ (l+1+1)→ZWa n := fun n hn => by unfold ZWa; have := Zuh hn; omega
    have hvg:∀ x, x < 4294967296→v * x < 4294967296 ^ (l+1+1) := fun x hx => by rw [Nat.pow_succ]; exact Nat.mul_lt_mul'' hv2 hx
    have okg:ZWa g := by
      unfold ZWa; have := Zuh (n := g) (k := 1) (by simpa using hg2); omega
    have okv:ZWa v := by unfold ZWa; omega
    have cN:Zrd (g:Int) = some g := by unfold Zrd; rw [Int.toNat_natCast]
    have cP:Z7b v g = some (v * g) := by unfold Z7b; rw [if_pos ⟨okv, okg⟩]
    rw [cG, Zh, cN, Zh, cP, Zh, Z1a, Z1a]; refine Zel (s := ((g:Int), v * g)) (fun s:Int×Nat => ∃ x:Nat, s.1 = (x:Int)∧s.2 = v * x∧q≤x∧x < 4294967296) (fun s => s.1.toNat) (fun r:Int×Nat => r = ((q:Int), v * q)) ⟨g, rfl, rfl, hg1, hg2⟩ (ZXa (by simp; omega)) ?_ ?_
    · rintro ⟨x, y⟩ ⟨x, rfl, rfl, hx1, hx2⟩; simp only; rw [Zh, Zh, ZLm]; by_cases hxp:p < v * x
      · left; have hx0:q < x := by
          rcases Nat.lt_or_ge q x with h' | h'
          · exact h'
          · have := Nat.mul_le_mul_left v h'; omega
        have cD:ZDc (v * x) v = some (v * (x - 1)) := by
          unfold ZDc; have hle:v * 1≤v * x := Nat.mul_le_mul_left v (by omega); rw [if_pos ⟨okp _ (hvg x hx2), by omega⟩, Nat.mul_sub, Nat.mul_one]
        have cW:IntKind.u64.wrap ((x:Int) - 1) = ((x - 1:Nat):Int) := by rw [show (x:Int) - 1 = ((x - 1:Nat):Int) by omega, ZNb (by omega)]
        rw [decide_eq_true hxp, ZM, cD, Zh, cW]; exact ⟨_, rfl, ⟨x - 1, rfl, rfl, by omega, by omega⟩, by simp; omega⟩
      · right; have hxq:x = q := by
          have h1:x≤p / v := (Nat.le_div_iff_mul_le hv0).2 (by rw [Nat.mul_comm]; omega); omega
        subst hxq; rw [decide_eq_false hxp, ZI]; exact ⟨_, rfl, rfl⟩
    · rintro _ rfl; rw [Zh]; simp only; have hjr:j < (Zl 4294967296 rest).length := by
        rcases Nat.lt_or_ge j (Zl 4294967296 rest).length with h' | h'
        · exact h'
        · have h1:(Zl 4294967296 rest).drop j = [] := List.drop_eq_nil_of_le h'; rw [ZXj (by decide), ← hpp] at h1; have := (ZVf (B := 4294967296) (by decide)).1 h1; omega
      have hrl:(Zl 4294967296 rest).length≤M+1 := by
        have := Zid (B := 4294967296) (by decide) hle; have := Zuh hraM; omega
      have cC:Zob (Zl 4294967296 rest) 0 (j:Int) = some ((Zl 4294967296 rest).take j) := by
        unfold Zob; rw [if_pos ⟨by omega, by omega, by omega⟩]; simp
      obtain ⟨r, hr⟩:∃ r, r = p % v := ⟨_, rfl⟩; rw [← hr] at hpq hpr; have cD:ZDc p (v * q) = some r := by
        unfold ZDc; rw [if_pos ⟨okp p hp1, by omega⟩]; exact congrArg some (by omega)
      have htl:((Zl 4294967296 rest).take j).length = j := by rw [List.length_take]; omega
      have hrlen:(Zl 4294967296 r).length≤l+1 := by rw [← hlv]; exact Zid (by decide) (by omega)
      rw [Z5 hjo, Zh, cC, Zh, Zhe (by simp only [List.nil_append, htl]; omega), Zh, Zh, cD, Zh, Zhe (by simp only [List.nil_append, List.length_append, htl]; omega), Zh]; unfold Z0b; rw [Zh, Zh, List.nil_append, Zad, htl, Z6a (by decide), ZUq (by decide) _ (by omega)]; have cW:IntKind.u32.wrap (q:Int) = (q:Int) := by rw [wrap_u32]; omega
      rw [cW, Int.toNat_natCast]; simp only; rw [cend, Zh]; have hnew:rest % 4294967296 ^ j+4294967296 ^ j * r+v * (4294967296 ^ j * q) = rest := by
        rw [← hrp, ← hpq]; grind
      refine ⟨_, rfl, ⟨j, rfl, by omega, by simp [ho], hd.set _ (by omega), fun i hi hij => ?_, ?_, ?_, ?_⟩, by simp⟩
      · simp only at hi ⊢; rw [List.getElem_set_ne (by omega)]; exact hz i (by simpa using hi) (by omega)
      · simp only; have := Nat.mul_le_mul_left (4294967296 ^ j) (show r+1≤v by omega); rw [Nat.mul_add, Nat.mul_comm (4294967296 ^ j) v] at this; omega
      · simp only; omega
      · simp only; have e6:(out.set j (q:Int)).drop j = (q:Int) :: out.drop (j+1) := by
          rw [List.drop_eq_getElem_cons (by simpa using hjo), List.getElem_set_self, List.drop_set_of_lt (by omega)]
        rw [e6]; simp only [val, Int.toNat_natCast]; rw [he]
        conv => lhs; rw [← hnew]
        rw [Nat.pow_succ]; grind
  · rintro ⟨rest, out⟩ ⟨h1, h2, h3⟩; simp only at h1 h2 h3 ⊢; rw [Zh]; simp only; unfold Z0b; have hrl:(Zl 4294967296 rest).length≤M+1 := by
      have := Zid (B := 4294967296) (by decide) h2; have := Zuh hraM; omega
    have cL:ZRf rest (up:Int) = some (rest / 2 ^ up) := by unfold ZRf; rw [if_pos ⟨by unfold ZWa; omega, by omega⟩, Int.toNat_natCast]
    rw [Zh, cL, Zh]; rw [hv] at h1 h3; rw [hra] at h3; obtain ⟨e1, e2⟩ := quo_end (Nat.pos_of_ne_zero hb0) hR h1 h3; rw [e1, e2]
theorem Z2o {n m:Nat} {z:Nat×Nat} (h:Zfd n m = some z):Zeh n m = some z := by
  unfold Zfd at h; split at h
  · rename_i hh; rw [Zwp hh.1 hh.2.1 hh.2.2, h]
  · cases h
noncomputable def ZEh (a:Nat) (b:Nat):Option (Nat) :=
 bnd (bnd (ZZ (fun s:Nat×Nat=>match s with
 | (d,c) =>
 (ifb (decide ((0:Int) < (((Zl 4294967296 c)).length:Int)))
 (bnd (Zfd d c) fun e =>
 some (.inl ((c,e.2))))
 (some (.inr d)))) Zda ((a,b)))
 (fun (f:Nat) =>
 (some f)))
 (fun (g:Nat) =>
 (some g))
noncomputable def Z6i (s:Bool) (n:Nat) (d:Nat):Option (Rat) :=
 ifb (((((Zl 4294967296 n)).length:Int)) == ((0:Int)))
 (bnd (ZPc ([(1:Int)])) fun b =>
 bnd (ZIe false ((0:Nat)) b) fun c =>
 some c)
 (bnd (rgcF n d) fun a =>
 bnd (Zfd n a) fun e =>
 bnd (Zfd d a) fun f =>
 bnd (ZIe s e.1 f.1) fun g =>
 some g)
theorem Z2k {n m:Nat} (h:n≤m) (hm:Z8a m):Z8a n := by
  have := Zid (B := 4294967296) (by decide) h; unfold Z8a at *; omega
theorem Zck {n:Nat} (h:Z8a n):bl n≤2199023255552 := by
  unfold Z8a at h; have h1 := ZMc (B := 4294967296) (by decide) n; have h2:4294967296 ^ (Zl 4294967296 n).length = 2 ^ (32 * (Zl 4294967296 n).length) := by rw [Nat.pow_mul]
  rw [h2] at h1; have := Ztc h1; omega
theorem sm32_of {n k:Nat} (h:bl n≤32 * k) (hk:k≤68719476736):Z8a n := by
  unfold Z8a; refine Nat.le_trans (Zcf (B := 4294967296) (k := k) (by decide) ?_) hk; have h1 := ZPe n; have h2:4294967296 ^ k = 2 ^ (32 * k) := by rw [Nat.pow_mul]
  rw [h2]; exact Nat.lt_of_lt_of_le h1 (Nat.pow_le_pow_right (by omega) h)
theorem ZOl {n:Nat} (h:bl n≤2199023255552):Z8a n := sm32_of (k := (bl n+31) / 32) (by omega) (by omega)
theorem rgcd_eq {n m:Nat} (hn:Z8a n) (hm:Z8a m):ZEh n m = some (Nat.gcd n m) := by
  unfold ZEh; rw [Z1a]; refine Zdb (fun s:Nat×Nat => Z8a s.1∧Z8a s.2∧Nat.gcd s.1 s.2 = Nat.gcd n m) (fun s => 2 * (bl s.1+bl s.2)+if s.1 < s.2 then 1 else 0) (fun r:Nat => r = Nat.gcd n m) ⟨hn, hm, rfl⟩
    (ZXa (by have := Zck hn; have := Zck hm; simp only; split <;> omega)) ?_ ?_
  · rintro ⟨a, b⟩ ⟨ha, hb, hg⟩; simp only at ha hb hg ⊢; rw [Zek]; by_cases h0:b = 0
    · right; subst h0; exact ⟨_, rfl, by rw [← hg, Nat.gcd_zero_right]⟩
    · left; have h1:Zfd a b = some (a / b, a % b) := by unfold Zfd; rw [if_pos ⟨ha, hb, h0⟩]
      have hlt:a % b < b := Nat.mod_lt _ (by omega); rw [decide_eq_true h0, ZM, h1, Zh]; refine ⟨_, rfl, ⟨hb, Z2k (Nat.le_of_lt hlt) hb, ?_⟩, ?_⟩
      · rw [← hg]; simp only; rw [Nat.gcd_comm b, ← Nat.gcd_rec, Nat.gcd_comm]
      · simp only; rw [if_neg (by omega)]; by_cases hab:a < b
        · rw [if_pos hab, Nat.mod_eq_of_lt hab]; omega
        · have := Zum (a := a) (b := b) (by omega) h0; rw [if_neg hab]; omega
  · rintro r rfl; rw [Zh]
theorem rgcF_eq {n m z:Nat} (h:rgcF n m = some z):ZEh n m = some z := by
  unfold rgcF at h; split at h
  · rename_i hh; rw [rgcd_eq hh.1 hh.2, h]
  · cases h
theorem Zqq {s:Bool} {n d:Nat} (hn:n ≠ 0) (hd:d ≠ 0):decide ((mkRat (sgn s n) d).num < 0) = s∧(mkRat (sgn s n) d).num.natAbs = n / Nat.gcd n d∧(mkRat (sgn s n) d).den = d / Nat.gcd n d := by
  have e0:(sgn s n).natAbs = n := by unfold sgn; split <;> omega
  have hg:0 < Nat.gcd n d := Nat.gcd_pos_of_pos_left _ (Nat.pos_of_ne_zero hn); have hnum:(mkRat (sgn s n) d).num = sgn s n / (Nat.gcd n d:Int) := by rw [Rat.num_mkRat, Nat.gcd_comm, e0]; simp [hd, Nat.gcd_comm]
  have hden:(mkRat (sgn s n) d).den = d / Nat.gcd n d := by rw [Rat.den_mkRat, e0]; simp [hd, Nat.gcd_comm]
  obtain ⟨k, hk⟩ := Nat.gcd_dvd_left n d; have hk0:k ≠ 0 := by rintro rfl; simp at hk; exact hn hk
  have hq:sgn s n / (Nat.gcd n d:Int) = sgn s k := by
    have:sgn s n = sgn s k * (Nat.gcd n d:Int) := by
      unfold sgn
      conv => lhs; rw [hk]
      split <;> grind
    rw [this, Int.mul_ediv_cancel _ (by omega)]
  have hnk:n / Nat.gcd n d = k := Nat.div_eq_of_eq_mul_right hg hk; rw [hnum, hq, hnk]; refine ⟨?_, by unfold sgn; split <;> omega, hden⟩
  cases s
  · apply decide_eq_false; simp only [sgn]; simp
  · apply decide_eq_true; simp only [sgn]; simp; omega
theorem Znp {s:Bool} {n d:Nat} (hn:n ≠ 0) (hd:d ≠ 0):ZIe s (n / Nat.gcd n d) (d / Nat.gcd n d) = some (mkRat (sgn s n) d) := by
  obtain ⟨h1, h2, h3⟩ := Zqq (s := s) hn hd; have := Zkm (mkRat (sgn s n) d); rw [h1, h2, h3] at this; exact this
theorem ZRq:ZIe false 0 1 = some 0 := Zkm 0
theorem ZOo {s:Bool} {n d:Nat} {z:Rat} (h:ZGc s n d = some z):Z6i s n d = some z := by
  unfold ZGc at h; split at h
  · rename_i hh; obtain ⟨h1, h2, h3⟩ := hh
    cases h
    unfold Z6i; rw [Zrj]; by_cases h0:n = 0
    · subst h0; rw [decide_eq_true rfl, ZM, ZNj, Zh, ZRq, Zh]; have e:sgn s 0 = 0 := by cases s <;> rfl
      rw [e, Rat.zero_mkRat]
    · have e1:rgcF n d = some (Nat.gcd n d) := by unfold rgcF; rw [if_pos ⟨h1, h2⟩]
      have hg:Nat.gcd n d ≠ 0 := by have := Nat.gcd_pos_of_pos_left d (Nat.pos_of_ne_zero h0); omega
      have okg:Z8a (Nat.gcd n d) := Z2k (Nat.gcd_le_left _ (Nat.pos_of_ne_zero h0)) h1; have e2:Zfd n (Nat.gcd n d) = some (n / Nat.gcd n d, n % Nat.gcd n d) := by unfold Zfd; rw [if_pos ⟨h1, okg, hg⟩]
      have e3:Zfd d (Nat.gcd n d) = some (d / Nat.gcd n d, d % Nat.gcd n d) := by unfold Zfd; rw [if_pos ⟨h2, okg, hg⟩]
      rw [decide_eq_false h0, ZI, e1, Zh, e2, Zh, e3, Zh, Znp h0 h3, Zh]
  · cases h
noncomputable def ZOg (n:Int):Option (Rat) :=
 ifb (decide (n < (0:Int)))
 (bnd (Zrd (IntKind.u64.wrap (-(IntKind.u64.wrap n)))) fun a =>
 bnd (ZPc ([(1:Int)])) fun b =>
 bnd (ZGc true a b) fun c =>
 some c)
 (bnd (Zrd (IntKind.u64.wrap n)) fun d =>
 bnd (ZPc ([(1:Int)])) fun e =>
 bnd (ZGc false d e) fun f =>
 some f)
noncomputable def Zlj (n:Int) (d:Int):Option (Rat×Int) :=
 ifb (d == ((0:Int)))
 (bnd (Zee ((0:Int))) fun c =>
 some ((c,(3:Int))))
 (bnd (Zee n) fun a =>
 bnd (Zee d) fun b =>
 bnd (ZGc ((decide (a.num < 0)) != (decide (b.num < 0))) a.num.natAbs b.num.natAbs) fun e =>
 some ((e,(0:Int))))
noncomputable def Zci (r:(Int×Int)):Option (Rat) :=
 ifb (r.2 == ((0:Int)))
 (bnd (Zee r.1) fun a =>
 some a)
 (bnd (ZGh r.1 r.2) fun b =>
 some b.1)
noncomputable def Z6h (x:Rat):Option (Int) :=
 bnd (Zme x) fun a =>
 ifb (a)
 (some ((0:Int)))
 (ifb (decide (x.num < 0))
 (some ((-1:Int)))
 (some ((1:Int))))
theorem Zag {n:Nat} (h:n≤18446744073709551616):Z8a n := ZOl (Nat.le_trans (Ztc (show n < 2 ^ 65 by omega)) (by decide))
theorem Zkl (n:Int):mkRat n 1 = (n:Rat) := by
  have := Rat.mkRat_self (n:Rat)
  simpa using this
theorem ZYo {n:Int} (h1:-9223372036854775808≤n) (h2:n≤9223372036854775807):ZOg n = some (n:Rat) := by
  unfold ZOg; rw [ZNj]; unfold Zrd ZGc; by_cases h:n < 0
  · obtain ⟨k, rfl⟩:∃ k:Nat, n = -(k:Int) := ⟨n.natAbs, by omega⟩; have e1:IntKind.u64.wrap (-(IntKind.u64.wrap (-(k:Int)))) = (k:Int) := by rw [wrap_u64, wrap_u64]; omega
    rw [decide_eq_true h, ZM, e1, Zh, Zh, Int.toNat_natCast, if_pos ⟨Zag (by omega), Zag (by omega), by omega⟩, Zh, Zkl]; rfl
  · obtain ⟨k, rfl⟩ := Int.eq_ofNat_of_zero_le (show 0≤n by omega); rw [decide_eq_false h, ZI, ZNb (by omega), Zh, Zh, Int.toNat_natCast, if_pos ⟨Zag (by omega), Zag (by omega), by omega⟩, Zh, Zkl]; rfl
theorem ZSp {n:Int} {z:Rat} (hn:inR .i64 n) (h:Zee n = some z):ZOg n = some z := by
  have := ZYb.1 hn; unfold Zee at h; rw [ZYo (by omega) (by omega), h]
theorem Zbr (n m:Int):sgn (decide (n < 0) != decide (m < 0)) n.natAbs = if m < 0 then -n else n := by
  have := ZPj n m; unfold Z1b at this; exact Option.some.inj this
theorem Zfp {n d:Int} {z:Rat×Int} (hn:inR .i64 n) (hd:inR .i64 d) (h:ZGh n d = some z):Zlj n d = some z := by
  have hn := ZYb.1 hn; have hd := ZYb.1 hd; unfold ZGh at h
  cases h
  unfold Zlj Zee; by_cases h0:d = 0
  · subst h0; rfl
  · have e0:(d == 0) = false := by simp [h0]
    rw [e0, ZI, if_neg h0, Zh, Zh]; unfold ZGc; rw [Rat.num_intCast, Rat.num_intCast, if_pos ⟨Zag (by omega), Zag (by omega), by omega⟩, Zh, Zbr, ← Zii]
theorem rofF_eq {r:Int×Int} {z:Rat} (h:Zre r = some z):Zci r = some z := by
  unfold Zre at h
  cases h
  unfold Zci Zyd Zee ZGh; by_cases h0:r.2 = 0
  · rw [if_pos h0, h0]; rfl
  · have:(r.2 == 0) = false := by simp [h0]
    rw [this, ZI, Zh, if_neg h0, if_neg h0]
theorem ZHp {x:Rat} {z:Int} (h:ZRd x = some z):Z6h x = some z := by
  unfold ZRd at h
  cases h
  unfold Z6h Zme; rw [Zh]; by_cases h0:x = 0
  · subst h0; rfl
  · have := ZNm h0; rw [decide_eq_false h0, ZI]; by_cases h1:x.num < 0
    · rw [decide_eq_true h1, ZM, Int.sign_eq_neg_one_of_neg h1]
    · rw [decide_eq_false h1, ZI, Int.sign_eq_one_of_pos (by omega)]
end Go.Eng
namespace Go.Eng
open Go.RowKit
def ZMm (P:Program) (f:FuncId) (T e:TypeId):Prop := ∀ (B b:Nat) (bs:List Value) (s:ByteArray) (w:World), Lib.IsBuilder T e B b bs w→bs.length+s.size≤140737488355328→B≤w.heap.size →
  Calls P f #[.pointer (some ⟨b, 0, none⟩), .string s] w fun x w' => x = .returned (.tuple #[.int .i64 s.size, .nilIface])∧(Lib.BuilderAt T e B b (.pointer (some ⟨b, 0, none⟩)) (bs ++ Lib.strCells s) w'∧Below B w w')
def Tells (P:Program) (f:FuncId) (T e:TypeId):Prop := ∀ (B b:Nat) (l:List UInt8) (w:World), Lib.IsBuilder T e B b (Lib.byteCells l) w→B≤w.heap.size →
  Calls P f #[.pointer (some ⟨b, 0, none⟩)] w fun x w' => x = .returned (.string ⟨l.toArray⟩)∧Below B w w'
structure Bld (T e b:Nat) (w0:Base) (v:Zc) (m:List UInt8) (w:World):Prop where
  is:Lib.IsBuilder T e b b (Lib.byteCells m) w
  old:∀ k o, v k = some o→k < b
  base:w0.wd.heap.size≤b
  lt:b≤w.heap.size
variable {P:Program} {K:Nat} {w0:Base} {v0:Zc} {σ:List (Nat×Value)} {ℓ:List Loc} {v:Zc} {a:Act} {w:World}
variable {ops:Array Oper} {Q:Exit→Act→World→Prop} {rest:List Oper}
theorem St.below {w':World} {b:Nat} (h:St K w0 v0 σ [] v a w) (x:Below b w w') (hv:∀ k o, v k = some o→k < b) (hb:w0.wd.heap.size≤b):St K w0 v0 σ [] v a w' :=
  ⟨h.size, h.dfr, h.fr, ⟨x.os.trans h.ext.os, x.tape.trans h.ext.tape, x.output.trans h.ext.output, Nat.le_trans h.ext.size x.size, fun k hk hn => (x.block k (by omega)).trans (h.ext.block k hk hn)⟩,
    ⟨h.vst.le, fun k o e => (x.block k (hv k o e)).trans (h.vst.vin k o e), h.vst.old⟩, fun e he => by simp at he, List.nodup_nil⟩
theorem op_newB {o:Oper} {d T:Nat} (e:Nat) (hS:St K w0 v0 σ ℓ v a w) (hw:Region.wanted o (yielded ops a.tmps) = true) (hd:o.dst = some d) (hK:d < K)
    (hrun:(execOp a.eval o).run P w = .ok (.value (.pointer (some ⟨w.heap.size, 0, none⟩))) (w.alloc (.cells #[.pointer none, .slice none 0 0] T)))
    (h:∀ b a w, St K w0 v0 ((d, .pointer (some ⟨b, 0, none⟩)) :: σ) [] v a w→Bld T e b w0 v [] w→wpList P ops Q rest a w):wpList P ops Q (o :: rest) a w :=
  ZUd hw (Zje hrun (by
    rw [hd]
    have h1:St K w0 v0 σ [] v a w := hS.drop (List.nil_sublist _)
    have h2:Ext w (w.alloc (.cells #[.pointer none, .slice none 0 0] T)) := Ext.alloc w _
    exact h w.heap.size _ _ ((h1.step h2 (VStep.ext h1.vin h2)).put _ hK) ⟨Lib.fresh_isBuilder T e w, fun k o hk => h1.vin.lt hk, h1.ext.size, h2.size⟩))
theorem Z1o (l l':List UInt8):Lib.byteCells l ++ Lib.strCells (Zm l') = Lib.byteCells (l ++ l') := by simp [Lib.byteCells, Lib.strCells, Zm]
theorem Zlp {o:Oper} {d f T e b:Nat} {m s:List UInt8} (hW:ZMm P f T e) (hB:Bld T e b w0 v m w) (hl:(m ++ s).length≤140737488355328) (hS:St K w0 v0 σ [] v a w) (hw:Region.wanted o (yielded ops a.tmps) = true) (hd:o.dst = some d) (hK:d < K)
    (hrun:(execOp a.eval o).run P w = .ok (.enter f #[.pointer (some ⟨b, 0, none⟩), .string (Zm s)]) w)
    (h:∀ a w, St K w0 v0 ((d, .tuple #[.int .i64 s.length, .nilIface]) :: σ) [] v a w→Bld T e b w0 v (m ++ s) w→wpList P ops Q rest a w):wpList P ops Q (o :: rest) a w := by
  have hc := hW b b (Lib.byteCells m) (Zm s) w hB.is (by rw [Lib.byteCells_length, Z6c, ← List.length_append]; exact hl) hB.lt; refine ZUd hw (Zbg hrun (Calls.mono hc fun x w' ⟨e1, e2, e3⟩ => ⟨_, e1, ?_⟩)); rw [hd]; rw [Z6c] at *; rw [Z1o] at e2; exact h _ _ ((hS.below e3 hB.old hB.base).put _ hK) ⟨.inr e2, hB.old, hB.base, Nat.le_trans hB.lt e3.size⟩
theorem op_tell {o:Oper} {d f T e b:Nat} {m:List UInt8} (hT:Tells P f T e) (hB:Bld T e b w0 v m w) (hS:St K w0 v0 σ [] v a w) (hw:Region.wanted o (yielded ops a.tmps) = true) (hd:o.dst = some d) (hK:d < K)
    (hrun:(execOp a.eval o).run P w = .ok (.enter f #[.pointer (some ⟨b, 0, none⟩)]) w)
    (h:∀ a w, St K w0 v0 ((d, .string (Zm m)) :: σ) [] v a w→wpList P ops Q rest a w):wpList P ops Q (o :: rest) a w := by
  have hc := hT b b m w hB.is hB.lt; refine ZUd hw (Zbg hrun (Calls.mono hc fun x w' ⟨e1, e3⟩ => ⟨_, e1, ?_⟩)); rw [hd]; exact h _ _ ((hS.below e3 hB.old hB.base).put _ hK)
def Zig (l:List UInt8):Option Unit := if l.length≤140737488355328 then some () else none
theorem Zlo {l:List UInt8} {u:Unit} (h:Zig l = some u):l.length≤140737488355328 := by
  unfold Zig at h; split at h
  · assumption
  · cases h
theorem ZJp {q:Option Nat} {b o:Nat} (h:mkA q = some ⟨b, o, none⟩):q = some b∧o = 0 := by
  cases q with
  | none => cases h
  | some c => cases h; exact ⟨rfl, rfl⟩
noncomputable def ZWg (a:Nat):Option ((List UInt8)) :=
 bnd (bnd (ZZ (fun s:Nat×(List UInt8)=>match s with
 | (e,f) =>
 (ifb (decide ((0:Int) < (((Zl 4294967296 e)).length:Int)))
 (bnd (ZOe e ((1000000000:Int))) fun c =>
 bnd (bnd (ZZ (fun s:(List UInt8)×Int×Int=>match s with
 | (d,b,g) =>
 (bnd (ifb (decide (g < (9:Int)))
 (ifb (decide ((0:Int) < (((Zl 4294967296 c.1)).length:Int)))
 (some true)
 (some (decide ((0:Int) < b))))
 (some false))
 (fun (j:Bool) =>
 (ifb (j)
 (bnd (rem .u32 b ((10:Int))) fun k =>
 bnd (rem .u32 b ((10:Int))) fun l =>
 bnd (Zob (([48,49,50,51,52,53,54,55,56,57]:List UInt8)) k (IntKind.u32.wrap (l+((1:Int))))) fun h =>
 bnd (Z8b (h ++ d)) fun r =>
 bnd (quo .u32 b ((10:Int))) fun m =>
 bnd (chk .i64 (g+((1:Int)))) fun n =>
 some (.inl (((h ++ d),m,n))))
 (some (.inr d)))))) Zda ((f,c.2,(0:Int))))
 (fun (o:(List UInt8)) =>
 (some o)))
 (fun (p:(List UInt8)) =>
 (some (.inl ((c.1,p))))))
 (some (.inr f)))) Zda ((a,([]:List UInt8))))
 (fun (q:(List UInt8)) =>
 (some q)))
 (fun (i:(List UInt8)) =>
 (ifb (i == (([]:List UInt8)))
 (some (([48]:List UInt8)))
 (some i)))
noncomputable def Zah (a:Nat):Option ((List UInt8)) :=
 bnd (bnd (ZZ (fun s:Nat×(List (List UInt8))=>match s with
 | (h,c) =>
 (ifb (decide ((0:Int) < (((Zl 18446744073709551616 h)).length:Int)))
 (bnd (Z3d h ((10000000000000000000:Int))) fun d =>
 bnd (Zdg d.2) fun b =>
 bnd (ifb (decide ((0:Int) < (((Zl 18446744073709551616 d.1)).length:Int)))
 (bnd (chk .i64 (((19:Int)) - ((b.length:Int)))) fun m =>
 bnd (Z7f (([48]:List UInt8)) m) fun i =>
 bnd (Z8b (i ++ b)) fun r =>
 some ((i ++ b)))
 (some b))
 (fun (j:(List UInt8)) =>
 (bnd (Z3a 16 (c ++ [j])) fun t =>
 some (.inl ((d.1,(c ++ [j])))))))
 (some (.inr c)))) Zda ((a,([]:(List (List UInt8))))))
 (fun (n:(List (List UInt8))) =>
 (some n)))
 (fun (e:(List (List UInt8))) =>
 (ifb (((e.length:Int)) == ((0:Int)))
 (some (([48]:List UInt8)))
 (bnd (chk .i64 (((e.length:Int)) - ((1:Int)))) fun o =>
 bnd (bnd (ZZ (fun s:(List UInt8)×Int=>match s with
 | (f,g) =>
 (ifb (decide ((0:Int)≤g))
 (bnd (idx e g) fun k =>
 bnd (Zig (f ++ k)) fun u =>
 bnd (chk .i64 (g - ((1:Int)))) fun p =>
 some (.inl (((f ++ k),p))))
 (some (.inr f)))) Zda ((([]:List UInt8),o)))
 (fun (q:(List UInt8)) =>
 (some q)))
 (fun (l:(List UInt8)) =>
 (bnd (Z8b l) fun v =>
 some l)))))
noncomputable def ZZi (x:Rat):Option ((List UInt8)) :=
 bnd (Zeg ((x.num).natAbs)) fun a =>
 bnd (ifb (decide (x.num < 0))
 (bnd (Z8b ((([45]:List UInt8)) ++ a)) fun e =>
 some (((([45]:List UInt8)) ++ a)))
 (some a))
 (fun (b:(List UInt8)) =>
 (bnd (ifb (decide ((0:Int) < (((Zl 18446744073709551616 ((Zib x.den)))).length:Int)))
 (bnd (Zeg ((Zib x.den))) fun c =>
 bnd (Z8b ((([47]:List UInt8)) ++ c)) fun f =>
 bnd (Z8b (b ++ (((([47]:List UInt8)) ++ c)))) fun g =>
 some ((b ++ (((([47]:List UInt8)) ++ c)))))
 (some b))
 (fun (d:(List UInt8)) =>
 (some d))))
theorem ZPi (n:Nat):(ZQa n).length≤bl n := by
  induction n using Nat.strongRecOn with
  | ind n ih =>
    by_cases h:n = 0
    · subst h; rw [ZWc]; simp
    · rw [Zve h, List.length_append]; have h1 := ih (n / 10) (by omega); have h2:bl (n / 10)+1≤bl n := by
        rw [ZMh h]; exact Nat.add_le_add_right (ZYd (by omega)) 1
      simp only [List.length_cons, List.length_nil]; omega
theorem Zur {n k:Nat} (h:n < 10 ^ k):(ZQa n).length≤k := by
  induction k generalizing n with
  | zero => simp at h; subst h; rw [ZWc]; simp
  | succ k ih =>
    by_cases h0:n = 0
    · subst h0; rw [ZWc]; simp
    · rw [Zve h0, List.length_append]; have := ih (n := n / 10) (by rw [Nat.pow_succ] at h; omega); simp only [List.length_cons, List.length_nil]; omega
theorem Z9n {q:Nat} (hq:q ≠ 0):∀ (k r:Nat), r < 10 ^ k→ZQa (q * 10 ^ k+r) = ZQa q ++ (List.replicate (k - (ZQa r).length) 48 ++ ZQa r) := by
  intro k
  induction k with
  | zero => intro r h; simp at h; subst h; rw [ZWc]; simp
  | succ k ih =>
    intro r h; rw [Nat.pow_succ] at h; have hn:q * 10 ^ (k+1)+r ≠ 0 := by
      have:0 < q * 10 ^ (k+1) := Nat.mul_pos (by omega) (Nat.pow_pos (by omega)); omega
    have e1:(q * 10 ^ (k+1)+r) / 10 = q * 10 ^ k+r / 10 := by rw [Nat.pow_succ, ← Nat.mul_assoc]; generalize q * 10 ^ k = p; omega
    have e2:(q * 10 ^ (k+1)+r) % 10 = r % 10 := by rw [Nat.pow_succ, ← Nat.mul_assoc]; generalize q * 10 ^ k = p; omega
    rw [Zve hn, e1, e2, ih (r / 10) (by omega)]; by_cases h0:r = 0
    · subst h0; simp only [Nat.zero_div, ZWc, List.length_nil, Nat.sub_zero, List.append_nil, List.append_assoc]; congr 1; rw [List.replicate_succ']; rfl
    · rw [Zve h0, List.length_append]; simp only [List.length_cons, List.length_nil, List.append_assoc]; rw [show k+1 - ((ZQa (r / 10)).length+(0+1)) = k - (ZQa (r / 10)).length by omega]
theorem Z0d {l:List UInt8} (h:l.length≤140737488355328):Z8b l = some () := by unfold Z8b; rw [if_pos (by unfold maxLen; omega)]
theorem Z3n {d:Nat} (h:d < 10):Zob ([48, 49, 50, 51, 52, 53, 54, 55, 56, 57]:List UInt8) (d:Int) ((d+1:Nat):Int) = some [UInt8.ofNat (48+d)] := by
  have:d = 0 ∨ d = 1 ∨ d = 2 ∨ d = 3 ∨ d = 4 ∨ d = 5 ∨ d = 6 ∨ d = 7 ∨ d = 8 ∨ d = 9 := by omega
  rcases this with rfl | rfl | rfl | rfl | rfl | rfl | rfl | rfl | rfl | rfl <;> rfl
theorem quo_u32 {p q:Nat} (hq:0 < q) (hp:p < 4294967296):quo .u32 (p:Int) (q:Int) = some ((p / q:Nat):Int) := by
  unfold quo; rw [if_neg (by omega)]; have e:(p:Int).tdiv (q:Int) = ((p / q:Nat):Int) := by simp [Int.tdiv_eq_ediv_of_nonneg]
  have h:p / q≤p := Nat.div_le_self _ _; generalize p / q = r at *; have h5:inR .u32 (r:Int) := (show (0:Int)≤(r:Int)∧(r:Int)≤4294967295 from ⟨by omega, by omega⟩); rw [e, ZZj h5]
theorem beq_nil {l:List UInt8}:(l == ([]:List UInt8)) = decide (l = []) := by
  cases l <;> rfl
theorem Zln {n:Nat}:ZQa n = [] ↔ n = 0 := by
  constructor
  · intro h; rcases Nat.eq_zero_or_pos n with h0 | h0
    · exact h0
    · rw [Zve (by omega)] at h; simp at h
  · rintro rfl; exact ZWc
theorem ZLo {a:Nat} (ha:Z8a a):ZWg a = some (Zyb a) := by
  unfold ZWg; rw [Z1a]; have hbl := Zck ha; refine Zdb (fun s:Nat×List UInt8 => Z8a s.1∧ZQa s.1 ++ s.2 = ZQa a) (fun s => bl s.1) (fun r:List UInt8 => r = ZQa a) ⟨ha, by simp⟩ (ZXa (by simp only; omega)) ?_ ?_
  · rintro ⟨x, s⟩ ⟨hx, he⟩; simp only at hx he ⊢; rw [Zek]; by_cases h0:x = 0
    · right; subst h0; rw [show decide ((0:Nat) ≠ 0) = false from rfl, ZI]; exact ⟨_, rfl, by rw [← he, ZWc]; rfl⟩
    · left; have e1:ZOe x (1000000000:Int) = some (x / 1000000000, ((x % 1000000000:Nat):Int)) := by
        unfold ZOe; rw [if_pos ⟨by unfold ZWa; unfold Z8a at hx; omega, by omega⟩]; rfl
      rw [decide_eq_true h0, ZM, e1, Zh, Z1a]; have hslen:s.length≤4398046511104 := by
        have := ZPi a; rw [← he, List.length_append] at this; omega
      refine Zel (s := (s, ((x % 1000000000:Nat):Int), (0:Int))) (fun t:List UInt8×Int×Int => ∃ r k m:Nat, t.2.1 = (r:Int)∧t.2.2 = (k:Int)∧k+m = 9∧r < 10 ^ m∧r < 1000000000∧ZQa (x / 1000000000 * 10 ^ m+r) ++ t.1 = ZQa a) (fun t => 9 - t.2.2.toNat)
        (fun t:List UInt8 => ZQa (x / 1000000000) ++ t = ZQa a) ⟨x % 1000000000, 0, 9, rfl, rfl, rfl, Nat.mod_lt _ (by decide), Nat.mod_lt _ (by decide), by
          rw [show x / 1000000000 * 10 ^ 9+x % 1000000000 = x by omega]; exact he⟩ (ZXa (by simp)) ?_ ?_
      · rintro ⟨t, r, k⟩ ⟨r, k, m, rfl, rfl, hk, hr, hr2, hd⟩; simp only at hd ⊢; rw [Zek]; have htl:t.length≤4398046511104 := by
          have := ZPi a; rw [← hd, List.length_append] at this; omega
        have cond:ifb (decide ((k:Int) < 9)) (ifb (decide (x / 1000000000 ≠ 0)) (some true) (some (decide ((0:Int) < (r:Int))))) (some false) = some (decide (k < 9∧x / 1000000000 * 10 ^ m+r ≠ 0)) := by
          by_cases h1:k < 9
          · rw [decide_eq_true (by omega), ZM]; by_cases h2:x / 1000000000 = 0
            · rw [decide_eq_false (by simp [h2]), ZI, h2]; exact congrArg some (decide_eq_decide.2 (by omega))
            · rw [decide_eq_true h2, ZM]; have:0 < x / 1000000000 * 10 ^ m := Nat.mul_pos (by omega) (Nat.pow_pos (by omega)); rw [decide_eq_true ⟨h1, by omega⟩]
          · rw [decide_eq_false (by omega), ZI, decide_eq_false (by omega)]
        rw [cond, Zh]; by_cases hc:k < 9∧x / 1000000000 * 10 ^ m+r ≠ 0
        · left; obtain ⟨h1, h2⟩ := hc; obtain ⟨m, rfl⟩:∃ j, m = j+1 := ⟨m - 1, by omega⟩; have c1:rem .u32 (r:Int) 10 = some ((r % 10:Nat):Int) := ZFe (q := 10) (by omega); have c2:quo .u32 (r:Int) 10 = some ((r / 10:Nat):Int) := quo_u32 (q := 10) (by omega) (by omega); have c3:IntKind.u32.wrap (((r % 10:Nat):Int)+1) = ((r % 10+1:Nat):Int) := by rw [wrap_u32]; omega
          have c4:chk .i64 ((k:Int)+1) = some ((k+1:Nat):Int) := by rw [show (k:Int)+1 = ((k+1:Nat):Int) by omega, Zcb (by omega)]
          rw [decide_eq_true ⟨h1, h2⟩, ZM, c1, Zh, Zh, c3, Z3n (Nat.mod_lt _ (by omega)), Zh, Z0d (by simp; omega), Zh, c2, Zh, c4, Zh]; rw [Nat.pow_succ] at hr; refine ⟨_, rfl, ⟨r / 10, k+1, m, rfl, rfl, by omega, by omega, by omega, ?_⟩, by simp; omega⟩; simp only; rw [← hd, Zve h2, List.append_assoc]; have e2:(x / 1000000000 * 10 ^ (m+1)+r) / 10 = x / 1000000000 * 10 ^ m+r / 10 := by rw [Nat.pow_succ, ← Nat.mul_assoc]; generalize x / 1000000000 * 10 ^ m = p; omega
          have e3:(x / 1000000000 * 10 ^ (m+1)+r) % 10 = r % 10 := by rw [Nat.pow_succ, ← Nat.mul_assoc]; generalize x / 1000000000 * 10 ^ m = p; omega
          rw [e2, e3]
        · right; rw [decide_eq_false hc, ZI]; refine ⟨_, rfl, ?_⟩; rw [← hd]; congr 2; by_cases hm:m = 0
          · subst hm; simp at hr; simp [hr]
          · have h2:x / 1000000000 * 10 ^ m+r = 0 := by
              rcases Nat.eq_zero_or_pos (x / 1000000000 * 10 ^ m+r) with h | h
              · exact h
              · exact absurd ⟨by omega, by omega⟩ hc
            have h3:x / 1000000000 * 10 ^ m = 0 := by omega
            rcases Nat.mul_eq_zero.1 h3 with h | h
            · rw [h2, h]
            · exact absurd h (Nat.pos_iff_ne_zero.1 (Nat.pow_pos (by omega)))
      · rintro t ht; rw [Zh]; refine ⟨_, rfl, ⟨Z2k (Nat.div_le_self _ _) hx, ht⟩, ?_⟩; simp only; have := ZMh h0; have h3:bl (x / 1000000000)≤bl (x / 2) := ZYd (by omega); omega
  · rintro r rfl; rw [Zh, beq_nil]; unfold Zyb; by_cases h0:a = 0
    · subst h0; rw [decide_eq_true ZWc, ZM, if_pos rfl]
    · rw [decide_eq_false (fun h => h0 (Zln.1 h)), ZI, if_neg h0]
theorem Zeq {n:Nat} {z:List UInt8} (h:ZBf n = some z):ZWg n = some z := by
  unfold ZBf at h; split at h
  · rename_i hh; rw [ZLo hh, h]
  · cases h
theorem Z2q (r:List (List UInt8)) (j:Nat):((r.drop j).reverse.flatten).length≤r.reverse.flatten.length := by
  have h:r.reverse.flatten = (r.drop j).reverse.flatten ++ (r.take j).reverse.flatten := by
    rw [← List.flatten_append, ← List.reverse_append, List.take_append_drop]
  rw [h, List.length_append]; omega
theorem Z0l (c:UInt8):∀ k:Nat, (List.replicate k [c]).flatten = List.replicate k c
  | 0 => rfl
  | k+1 => by rw [List.replicate_succ, List.flatten_cons, Z0l c k, List.replicate_succ]; rfl
theorem text_eq {a:Nat} (ha:okN a):Zah a = some (Zyb a) := by
  unfold Zah; have hbl := Z3j ha; have hda := ZPi a; rw [Z1a]; refine Zdb (fun s:Nat×List (List UInt8) => okN s.1∧ZQa s.1 ++ s.2.reverse.flatten = ZQa a∧bl s.1+s.2.length≤bl a) (fun s => bl s.1) (fun r:List (List UInt8) => r.reverse.flatten = ZQa a∧r.length≤bl a∧(a ≠ 0→r ≠ [])) ⟨ha, by simp, by simp⟩ (ZXa (by simp only; omega)) ?_ ?_
  · rintro ⟨x, s⟩ ⟨hx, he, hl⟩; simp only at hx he hl ⊢; by_cases h0:x = 0
    · right; subst h0; rw [Z5a, show decide ((0:Int) < (([]:List Int).length:Int)) = false from rfl, ZI]; rw [ZWc, List.nil_append] at he; refine ⟨_, rfl, he, by omega, fun h1 h2 => ?_⟩; subst h2; exact h1 (Zln.1 he.symm)
    · left; have hpos := List.length_pos_iff.2 ((Zdd (n := x) (B := 18446744073709551616) (by decide)).2 h0); have e1:Z3d x (10000000000000000000:Int) = some (x / 10000000000000000000, ((x % 10000000000000000000:Nat):Int)) := by
        unfold Z3d; rw [if_pos ⟨hx, by omega⟩]; rfl
      have e2:Zdg ((x % 10000000000000000000:Nat):Int) = some (ZQa (x % 10000000000000000000)) := by unfold Zdg; rw [Int.toNat_natCast]
      rw [decide_eq_true (show (0:Int) < ((Zl 18446744073709551616 x).length:Int) by omega), ZM, e1, Zh]; simp only; rw [e2, Zh]; have hr:(ZQa (x % 10000000000000000000)).length≤19 := Zur (k := 19) (Nat.mod_lt _ (by decide)); have hb2:bl (x / 10000000000000000000)+1≤bl x := by
        rw [ZMh h0]; exact Nat.add_le_add_right (ZYd (by omega)) 1
      have hsplit:∃ p:List UInt8, ifb (decide ((0:Int) < ((Zl 18446744073709551616 (x / 10000000000000000000)).length:Int))) (bnd (chk .i64 (19 - ((ZQa (x % 10000000000000000000)).length:Int))) fun y218 => bnd (Z7f [48] y218) fun y220 => bnd (Z8b (y220 ++ ZQa (x % 10000000000000000000))) fun y227 => some (y220 ++ ZQa (x % 10000000000000000000))) (some (ZQa (x % 10000000000000000000))) = some p∧ZQa (x / 10000000000000000000) ++ p = ZQa x := by
        by_cases hq:x / 10000000000000000000 = 0
        · refine ⟨_, by rw [hq, Z5a]; rfl, ?_⟩; rw [hq, ZWc, List.nil_append]; congr 1; omega
        · have hpos := List.length_pos_iff.2 ((Zdd (n := x / 10000000000000000000) (B := 18446744073709551616) (by decide)).2 hq); obtain ⟨k, hk⟩:∃ k, k = 19 - (ZQa (x % 10000000000000000000)).length := ⟨_, rfl⟩; have e3:chk .i64 (19 - ((ZQa (x % 10000000000000000000)).length:Int)) = some (k:Int) := by rw [show (19 - ((ZQa (x % 10000000000000000000)).length:Int)) = (k:Int) by omega, Zcb (by omega)]
          have e4:Z7f [48] (k:Int) = some (List.replicate k 48) := by
            unfold Z7f; rw [if_pos ⟨by omega, by simp; omega⟩, Int.toNat_natCast, Z0l]
          refine ⟨List.replicate k 48 ++ ZQa (x % 10000000000000000000), ?_, ?_⟩
          · rw [decide_eq_true (by omega), ZM, e3, Zh, e4, Zh, Z0d (by simp; omega), Zh]
          · have := Z9n hq 19 (x % 10000000000000000000) (Nat.mod_lt _ (by decide)); rw [show x / 10000000000000000000 * 10 ^ 19+x % 10000000000000000000 = x by omega] at this; rw [this, hk]
      obtain ⟨p, ep, hp⟩ := hsplit; rw [ep, Zh, Zhe (by simp; omega), Zh]; refine ⟨_, rfl, ⟨ZIj (Nat.div_le_self _ _) hx, ?_, by simp; omega⟩, by simp only; omega⟩; simp only [List.reverse_append, List.reverse_cons, List.reverse_nil, List.nil_append, List.singleton_append, List.flatten_cons]; rw [← List.append_assoc, hp, he]
  · rintro r ⟨hr, hl, hne⟩; rw [Zh]; by_cases h0:a = 0
    · subst h0; have:r = [] := by
        have := hl; simp [bl] at this; exact this
      subst this; rfl
    · have hne := hne h0; have hpos:0 < r.length := List.length_pos_iff.2 hne; have e1:((r.length:Int) == 0) = false := beq_false_of_ne (by omega); rw [e1, ZI, Zsa (by omega) (by omega), Zh, Z1a]; unfold Zyb; rw [if_neg h0]; refine Zdb (fun s:List UInt8×Int => ∃ k:Nat, s.2 = (k:Int) - 1∧k≤r.length∧s.1 = (r.drop k).reverse.flatten) (fun s => (s.2+1).toNat) (fun t:List UInt8 => t = ZQa a) ⟨r.length, rfl, by omega, by simp⟩ (ZXa (by simp only; omega)) ?_ ?_
      · rintro ⟨s, i⟩ ⟨k, hi, hk, hs⟩; simp only at hi hs ⊢; subst hi hs; by_cases hk0:k = 0
        · right; subst hk0; rw [show decide ((0:Int)≤((0:Nat):Int) - 1) = false from rfl, ZI]; exact ⟨_, rfl, by rw [List.drop_zero]; exact hr⟩
        · left; obtain ⟨j, rfl⟩:∃ j, k = j+1 := ⟨k - 1, by omega⟩; have ej:((j+1:Nat):Int) - 1 = (j:Int) := by omega
          have hj:j < r.length := by omega
          have hnew:(r.drop (j+1)).reverse.flatten ++ r[j] = (r.drop j).reverse.flatten := by
            rw [List.drop_eq_getElem_cons hj, List.reverse_cons, List.flatten_append]; simp
          have hlen:((r.drop j).reverse.flatten).length≤r.reverse.flatten.length := Z2q r j; rw [hr] at hlen; have e2:Zig ((r.drop (j+1)).reverse.flatten ++ r[j]) = some () := by unfold Zig; rw [if_pos (by rw [hnew]; omega)]
          rw [ej, decide_eq_true (show (0:Int)≤(j:Int) by omega), ZM, Z5 hj, Zh, e2, Zh, Zsa (by omega) (by omega), Zh]; exact ⟨_, rfl, ⟨j, rfl, by omega, hnew⟩, by simp⟩
      · rintro t rfl; rw [Zh, Z0d (by omega), Zh]
theorem ZKp {n:Nat} {z:List UInt8} (h:Zeg n = some z):Zah n = some z := by
  unfold Zeg at h; split at h
  · rename_i hh; rw [text_eq hh, h]
  · cases h
theorem Zvj {n:Nat} (h:bl n≤4398046511104):(Zyb n).length≤4398046511104 := by
  unfold Zyb; split
  · simp
  · have := ZPi n; omega
theorem Zhq {x:Rat} {z:List UInt8} (h:ZQd x = some z):ZZi x = some z := by
  unfold ZQd at h; split at h
  · rename_i hh; obtain ⟨h1, h2⟩ := hh
    cases h
    unfold ZZi Zeg; have l1 := Zvj (n := x.num.natAbs) (by omega); have l2 := Zvj (n := x.den) (by omega); rw [if_pos (Zpb (by omega)), Zh]; have e1:ifb (decide (x.num < 0)) (bnd (Z8b ([45] ++ Zyb x.num.natAbs)) fun y80 => some (([45]:List UInt8) ++ Zyb x.num.natAbs)) (some (Zyb x.num.natAbs)) = some ((if x.num < 0 then [45] else []) ++ Zyb x.num.natAbs) := by
      by_cases h:x.num < 0
      · rw [decide_eq_true h, ZM, Z0d (by simp; omega), Zh, if_pos h]
      · rw [decide_eq_false h, ZI, if_neg h]; rfl
    rw [e1, Zh]; unfold txtQ; have l3:((if x.num < 0 then [45] else []) ++ Zyb x.num.natAbs:List UInt8).length≤4398046511105 := by
      rw [List.length_append]; split <;> simp <;> omega
    generalize ((if x.num < 0 then [45] else []) ++ Zyb x.num.natAbs:List UInt8) = s at *; by_cases hd:x.den = 1
    · rw [hd]; rw [show Zib 1 = 0 from rfl, Z5a]; simp [ifb, bnd]
    · have e2:Zib x.den = x.den := by unfold Zib; rw [if_neg hd]
      have hpos := List.length_pos_iff.2 ((Zdd (n := x.den) (B := 18446744073709551616) (by decide)).2 x.den_nz); rw [e2, decide_eq_true (by omega), ZM, if_pos (Zpb (by omega)), Zh, Z0d (by simp; omega), Zh, Z0d (by simp; omega), Zh, Zh, if_neg hd]; rfl
  · cases h
theorem num_pos {q:Rat}:0 < q.num ↔ 0 < q := by
  have h1 := Rat.num_nonneg (q := q); have h2 := Rat.num_eq_zero (q := q); constructor
  · intro h; have h3:0≤q := h1.1 (by omega); have h4:q ≠ 0 := fun e => by have := h2.2 e; omega
    grind
  · intro h; have h3:0≤q.num := h1.2 (by grind); have h4:q.num ≠ 0 := fun e => by have := h2.1 e; grind
    omega
theorem num_neg {q:Rat}:q.num < 0 ↔ q < 0 := by
  have h1 := Rat.num_nonneg (q := q); constructor
  · intro h; rcases Rat.le_total (a := 0) (b := q) with h3 | h3
    · have := h1.2 h3; omega
    · have h4:q ≠ 0 := fun e => by subst e; simp at h
      grind
  · intro h; rcases Int.lt_or_le q.num 0 with h3 | h3
    · exact h3
    · have := h1.1 h3; grind
theorem Zdr {q:Rat}:(0 < q.num.sign) ↔ 0 < q := by
  rw [← num_pos]; rcases Int.lt_trichotomy q.num 0 with h | h | h
  · rw [Int.sign_eq_neg_one_of_neg h]; omega
  · rw [h]; simp
  · rw [Int.sign_eq_one_of_pos h]; omega
theorem Zpl {q:Rat}:(q.num.sign < 0) ↔ q < 0 := by
  rw [← num_neg]; rcases Int.lt_trichotomy q.num 0 with h | h | h
  · rw [Int.sign_eq_neg_one_of_neg h]; omega
  · rw [h]; simp
  · rw [Int.sign_eq_one_of_pos h]; omega
theorem Znl {q:Rat}:(q.num.sign≤0) ↔ q≤0 := by
  have h := Zdr (q := q); constructor
  · intro h1; rcases Rat.le_total (a := q) (b := 0) with h2 | h2
    · exact h2
    · by_cases h3:q = 0
      · grind
      · have := h.2 (by grind); omega
  · intro h1; rcases Int.lt_or_le 0 q.num.sign with h2 | h2
    · have := h.1 h2; grind
    · exact h2
theorem Ztq {q:Rat}:(0≤q.num.sign) ↔ 0≤q := by
  have h := Zpl (q := q); constructor
  · intro h1; rcases Rat.le_total (a := 0) (b := q) with h2 | h2
    · exact h2
    · by_cases h3:q = 0
      · grind
      · have := h.2 (by grind); omega
  · intro h1; rcases Int.lt_or_le q.num.sign 0 with h2 | h2
    · have := h.1 h2; grind
    · exact h2
def sz (k:Nat) (x:Rat):Prop := bl x.num.natAbs≤k∧bl x.den≤k
theorem sz.mono {k m:Nat} {x:Rat} (h:sz k x) (hk:k≤m):sz m x := ⟨by have := h.1; omega, by have := h.2; omega⟩
theorem sz.ok {k:Nat} {x:Rat} (h:sz k x) (hk:k≤1099511627776):okQ x := ⟨by have := h.1; omega, by have := h.2; omega⟩
theorem sz.sm {k:Nat} {x:Rat} (h:sz k x) (hk:k≤68719476736):smQ x := ⟨by have := h.1; omega, by have := h.2; omega⟩
theorem sz_add {k m:Nat} {x y:Rat} (h:sz k x) (h':sz m y):sz (k+m+1) (x+y) := by
  have := ZBp x y; obtain ⟨a, b⟩ := h; obtain ⟨c, d⟩ := h'; exact ⟨by omega, by omega⟩
theorem Zoi {k:Nat} {x:Rat} (h:sz k x):sz k (-x) := by
  obtain ⟨a, b⟩ := h; have := Zqm x; exact ⟨by rw [this.1]; exact a, by rw [this.2]; exact b⟩
theorem sz_int {n:Int} (h:-9223372036854775808≤n∧n≤9223372036854775807):sz 64 (n:Rat) := by
  have h2 := ZUn n; have h3:bl n.natAbs≤64 := Ztc (show n.natAbs < 2 ^ 64 by omega); exact ⟨by omega, by omega⟩
def i64 (r:Int×Int):Prop := (-9223372036854775808≤r.1∧r.1≤9223372036854775807)∧(-9223372036854775808≤r.2∧r.2≤9223372036854775807)
theorem Z6j {r:Int×Int} (h:i64 r):sz 64 (Zyd r) := by
  unfold Zyd; by_cases h0:r.2 = 0
  · rw [if_pos h0]; exact sz_int h.1
  · rw [if_neg h0, Zii]; obtain ⟨⟨a, b⟩, c, d⟩ := h; rcases Z5l (if r.2 < 0 then -r.1 else r.1) r.2.natAbs with ⟨h1, h2⟩ | h1
    · have h3:bl (if r.2 < 0 then -r.1 else r.1).natAbs≤64 := Ztc (show _ < 2 ^ 64 by split <;> omega); have h4:bl r.2.natAbs≤64 := Ztc (show _ < 2 ^ 64 by omega); exact ⟨by omega, by omega⟩
    · omega
theorem qadd_ok {k m:Nat} {x y:Rat} (h:sz k x) (h':sz m y) (hk:k+m≤1000000000):Z7c x y = some (x+y) := by unfold Z7c; rw [if_pos ⟨h.ok (by omega), h'.ok (by omega)⟩]
theorem Zml {k m:Nat} {x y:Rat} (h:sz k x) (h':sz m y) (hk:k+m≤1000000000):Znd x y = some (x - y).num.sign := by unfold Znd; rw [if_pos ⟨h.ok (by omega), h'.ok (by omega)⟩]
def decG:Nat→Nat→List UInt8
  | 0, _ => []
  | k+1, n => if n = 0 then [] else decG k (n / 10) ++ [UInt8.ofNat (48+n % 10)]
theorem Zvk:∀ (k n:Nat), n≤k→decG k n = ZQa n
  | 0, n, h => by
    have:n = 0 := by omega
    subst this; rw [ZWc]; rfl
  | k+1, n, h => by
    by_cases h0:n = 0
    · subst h0; rw [ZWc]; rfl
    · rw [Zve h0, decG, if_neg h0, Zvk k (n / 10) (by omega)]
def txtG (x:Rat):List UInt8 := (if x.num < 0 then [45] else []) ++ (if x.num.natAbs = 0 then [48] else decG x.num.natAbs x.num.natAbs) ++ (if x.den = 1 then [] else 47 :: (if x.den = 0 then [48] else decG x.den x.den))
theorem txtG_eq:txtG = txtQ := by
  funext x
  unfold txtG txtQ Zyb; rw [Zvk _ _ (Nat.le_refl _), Zvk _ _ (Nat.le_refl _)]
def ZMn (x:Rat):Option (List UInt8) := if okQ x then some (txtG x) else none
theorem Zvr:ZQd = ZMn := by
  funext x
  unfold ZQd ZMn; rw [txtG_eq]
theorem Zab {α β:Type} {x:Option α} {y:α} {f:α→Option β} {z:Option β} (h:x = some y) (h2:f y = z):bnd x f = z := by subst h; rw [Zh]; exact h2
theorem Z4e {S R:Type} {body:S→Option (S ⊕ R)} {s:S} {r:R} (st:Nat→S) (n:Nat) (h0:st 0 = s) (hn:n < 2 ^ 64) (h:∀ k, k < n→body (st k) = some (.inl (st (k+1)))) (he:body (st n) = some (.inr r)):ZZ body Zda s = some r := by
  have key:∀ m f k, k+m = n→m < f→ZZ body f (st k) = some r := by
    intro m
    induction m with
    | zero =>
      intro f k hk hf; obtain ⟨f, rfl⟩:∃ g, f = g+1 := ⟨f - 1, by omega⟩; obtain rfl:k = n := by omega
      unfold ZZ; rw [he, Zh]
    | succ m ih =>
      intro f k hk hf; obtain ⟨f, rfl⟩:∃ g, f = g+1 := ⟨f - 1, by omega⟩; unfold ZZ; rw [h k (by omega), Zh]; exact ih f (k+1) (by omega) (by omega)
  rw [← h0]; exact key n Zda 0 (by omega) (ZXa (by omega))
noncomputable def ZYg (x:Rat):Option (Rat) :=
 bnd (ZXd x) fun a =>
 bnd (ZGc (!(decide (x.num < 0))) x.num.natAbs a) fun b =>
 some b
noncomputable def ZBh (x:Rat) (y:Rat):Option (Rat) :=
 bnd (ZXd x) fun a =>
 bnd (ZXd y) fun b =>
 bnd (Z7b x.num.natAbs b) fun c =>
 bnd (Z7b y.num.natAbs a) fun d =>
 ifb ((decide (x.num < 0)) == (decide (y.num < 0)))
 (bnd (Z6f c d) fun e =>
 bnd (Z7b a b) fun f =>
 bnd (ZGc (decide (x.num < 0)) e f) fun g =>
 some g)
 (bnd (Zod c d) fun h =>
 ifb (decide ((0:Int)≤h))
 (bnd (ZDc c d) fun i =>
 bnd (Z7b a b) fun j =>
 bnd (ZGc (decide (x.num < 0)) i j) fun k =>
 some k)
 (bnd (ZDc d c) fun l =>
 bnd (Z7b a b) fun m =>
 bnd (ZGc (decide (y.num < 0)) l m) fun n =>
 some n))
noncomputable def ZZh (x:Rat) (y:Rat):Option (Rat) :=
 bnd (Zwd y) fun a =>
 bnd (ZRe x a) fun b =>
 some b
noncomputable def Zpj (x:Rat) (y:Rat):Option (Int) :=
 bnd (ZFh x y) fun a =>
 bnd (ZRd a) fun b =>
 some b
noncomputable def ZVi (x:Rat):Option ((List UInt8)) :=
 bnd (ZBf x.num.natAbs) fun b =>
 bnd (ifb (decide (x.num < 0))
 (bnd (Zme x) fun d =>
 some (!(d)))
 (some false))
 (fun (e:Bool) =>
 (bnd (ifb (e)
 (bnd (Z8b ((([45]:List UInt8)) ++ b)) fun j =>
 some (((([45]:List UInt8)) ++ b)))
 (some b))
 (fun (a:(List UInt8)) =>
 (bnd (ZXd x) fun f =>
 bnd (ZPc ([(1:Int)])) fun g =>
 bnd (Zod f g) fun h =>
 bnd (ifb (decide ((0:Int) < h))
 (bnd (Z8b (a ++ (([47]:List UInt8)))) fun k =>
 bnd (ZBf x.den) fun c =>
 bnd (Z8b (((a ++ (([47]:List UInt8)))) ++ c)) fun l =>
 some ((((a ++ (([47]:List UInt8)))) ++ c)))
 (some a))
 (fun (i:(List UInt8)) =>
 (some i))))))
theorem Znf {n:Nat} (h:bl n≤1099511627776):Z8a n := ZOl (by omega)
theorem Zzd {n:Nat} (h:bl n≤1099511627776):ZWa n := by have := Znf h; unfold Z8a at this; unfold ZWa; omega
theorem rneg_eq {x:Rat} (h:okQ x):ZYg x = some (-x) := by
  obtain ⟨h1, h2⟩ := h; unfold ZYg ZXd ZGc; rw [Zh, if_pos ⟨Znf h1, Znf h2, x.den_nz⟩, Zh]; congr 1; have e:sgn (!(decide (x.num < 0))) x.num.natAbs = -x.num := by
    unfold sgn; by_cases h:x.num < 0
    · simp [h]; omega
    · simp [h]; omega
  rw [e]; exact Rat.mkRat_self (-x)
theorem Zko {x z:Rat} (h:Zwd x = some z):ZYg x = some z := by
  unfold Zwd at h; split at h
  · rename_i hh; rw [rneg_eq hh, h]
  · cases h
theorem radd_eq {x y:Rat} (h:smQ x) (h':smQ y):ZBh x y = some (x+y) := by
  obtain ⟨a1, a2⟩ := h; obtain ⟨b1, b2⟩ := h'; unfold ZBh ZXd; have p1 := ZXc x.num.natAbs y.den; have p2 := ZXc y.num.natAbs x.den; have p3 := ZXc x.den y.den; have p4 := ZNk (x.num.natAbs * y.den) (y.num.natAbs * x.den); have hd:x.den * y.den ≠ 0 := Nat.mul_ne_zero x.den_nz y.den_nz; have e1:Z7b x.num.natAbs y.den = some (x.num.natAbs * y.den) := by unfold Z7b; rw [if_pos ⟨Zzd (by omega), Zzd (by omega)⟩]
  have e2:Z7b y.num.natAbs x.den = some (y.num.natAbs * x.den) := by unfold Z7b; rw [if_pos ⟨Zzd (by omega), Zzd (by omega)⟩]
  have e3:Z7b x.den y.den = some (x.den * y.den) := by unfold Z7b; rw [if_pos ⟨Zzd (by omega), Zzd (by omega)⟩]
  have eN:((x.num.natAbs * y.den:Nat):Int) = (x.num.natAbs:Int) * y.den := by simp
  have eM:((y.num.natAbs * x.den:Nat):Int) = (y.num.natAbs:Int) * x.den := by simp
  have key:∀ (s:Bool) (n:Nat), bl n≤1099511627776→sgn s n = x.num * y.den+y.num * x.den→ZGc s n (x.den * y.den) = some (x+y) := by
    intro s n hn he; unfold ZGc; rw [if_pos ⟨Znf hn, Znf (by omega), hd⟩, he, ← Rat.add_def']
  rw [Zh, Zh, e1, Zh, e2, Zh, e3]; obtain ⟨N, hN⟩:∃ N, N = x.num.natAbs * y.den := ⟨_, rfl⟩; obtain ⟨M, hM⟩:∃ M, M = y.num.natAbs * x.den := ⟨_, rfl⟩; rw [← hN] at p1 p4 eN ⊢; rw [← hM] at p2 p4 eM ⊢; have sx:x.num * (y.den:Int) = if x.num < 0 then -(N:Int) else N := by
    split
    · rw [eN, ← Int.neg_mul]; congr 1; omega
    · rw [eN]; congr 1; omega
  have sy:y.num * (x.den:Int) = if y.num < 0 then -(M:Int) else M := by
    split
    · rw [eM, ← Int.neg_mul]; congr 1; omega
    · rw [eM]; congr 1; omega
  by_cases hs:(x.num < 0) ↔ (y.num < 0)
  · have e4:Z6f N M = some (N+M) := by unfold Z6f; rw [if_pos ⟨Zzd (by omega), Zzd (by omega)⟩]
    have e5:((decide (x.num < 0)) == (decide (y.num < 0))) = true := by
      by_cases h:x.num < 0
      · simp [h, hs.1 h]
      · have h2:¬ y.num < 0 := fun k => h (hs.2 k); simp [h, h2]
    rw [e5, ZM, e4, Zh, Zh, key _ _ (by omega) ?_, Zh]; rw [sx, sy]; unfold sgn; by_cases h:x.num < 0
    · have h2 := hs.1 h; simp [h, h2]; omega
    · have h2:¬ y.num < 0 := fun k => h (hs.2 k); simp [h, h2]
  · have e5:((decide (x.num < 0)) == (decide (y.num < 0))) = false := by
      apply beq_false_of_ne; intro h; exact hs (by by_cases k:x.num < 0 <;> by_cases k2:y.num < 0 <;> simp_all)
    rw [e5, ZI]; unfold Zod; rw [Zh]; by_cases hle:M≤N
    · have e6:decide ((0:Int)≤Zbb N M) = true := by
        unfold Zbb; rw [if_neg (by omega)]; split <;> rfl
      have e4:ZDc N M = some (N - M) := by unfold ZDc; rw [if_pos ⟨Zzd (by omega), hle⟩]
      have hb:bl (N - M)≤bl N := ZYd (by omega); rw [e6, ZM, e4, Zh, Zh, key _ _ (by omega) ?_, Zh]; rw [sx, sy]; unfold sgn; by_cases h:x.num < 0
      · have h2:¬ y.num < 0 := fun k => hs ⟨fun _ => k, fun _ => h⟩; simp [h, h2]; omega
      · have h2:y.num < 0 := by
          rcases Int.lt_or_le y.num 0 with k | k
          · exact k
          · exact absurd ⟨fun q => absurd q h, fun q => absurd q (by omega)⟩ hs
        simp [h, h2]; omega
    · have e6:decide ((0:Int)≤Zbb N M) = false := by
        unfold Zbb; rw [if_pos (by omega)]; rfl
      have e4:ZDc M N = some (M - N) := by unfold ZDc; rw [if_pos ⟨Zzd (by omega), by omega⟩]
      have hb:bl (M - N)≤bl M := ZYd (by omega); rw [e6, ZI, e4, Zh, Zh, key _ _ (by omega) ?_, Zh]; rw [sx, sy]; unfold sgn; by_cases h:x.num < 0
      · have h2:¬ y.num < 0 := fun k => hs ⟨fun _ => k, fun _ => h⟩; simp [h, h2]; omega
      · have h2:y.num < 0 := by
          rcases Int.lt_or_le y.num 0 with k | k
          · exact k
          · exact absurd ⟨fun q => absurd q h, fun q => absurd q (by omega)⟩ hs
        simp [h, h2]; omega
theorem ZYq {x y z:Rat} (h:ZRe x y = some z):ZBh x y = some z := by
  unfold ZRe at h; split at h
  · rename_i hh; rw [radd_eq hh.1 hh.2, h]
  · cases h
theorem smQ_neg {x:Rat} (h:smQ x):smQ (-x) := by
  unfold smQ at *; have := Zqm x; rw [this.1, this.2]; exact h
theorem smQ_ok {x:Rat} (h:smQ x):okQ x := by unfold smQ at h; unfold okQ; omega
theorem Z4q {x y z:Rat} (h:ZFh x y = some z):ZZh x y = some z := by
  unfold ZFh at h; split at h
  · rename_i hh; unfold ZZh Zwd ZRe; rw [if_pos (smQ_ok hh.2), Zh, if_pos ⟨hh.1, smQ_neg hh.2⟩, Zh, ← Rat.sub_eq_add_neg]; exact h
  · cases h
theorem ZHq {x y:Rat} {z:Int} (h:Zof x y = some z):Zpj x y = some z := by
  unfold Zof at h; split at h
  · rename_i hh
    cases h
    unfold Zpj ZFh ZRd; rw [if_pos hh, Zh, Zh]
  · cases h
theorem Zmp {x:Rat} {z:List UInt8} (h:ZXg x = some z):ZVi x = some z := by
  unfold ZXg at h; split at h
  · rename_i hh; obtain ⟨h1, h2⟩ := hh
    cases h
    unfold ZVi ZBf; have l1 := Zvj (n := x.num.natAbs) (by omega); have l2 := Zvj (n := x.den) (by omega); rw [if_pos (Znf h1), Zh]; have e0:ifb (decide (x.num < 0)) (bnd (Zme x) fun y136 => some (!(y136))) (some false) = some (decide (x.num < 0)) := by
      unfold Zme; by_cases h:x.num < 0
      · have:x ≠ 0 := fun e => by subst e; simp at h
        rw [decide_eq_true h, ZM, Zh, decide_eq_false this]; rfl
      · rw [decide_eq_false h, ZI]
    rw [e0, Zh]; have e1:ifb (decide (x.num < 0)) (bnd (Z8b ([45] ++ Zyb x.num.natAbs)) fun y80 => some (([45]:List UInt8) ++ Zyb x.num.natAbs)) (some (Zyb x.num.natAbs)) = some ((if x.num < 0 then [45] else []) ++ Zyb x.num.natAbs) := by
      by_cases h:x.num < 0
      · rw [decide_eq_true h, ZM, Z0d (by simp; omega), Zh, if_pos h]
      · rw [decide_eq_false h, ZI, if_neg h]; rfl
    rw [e1, Zh]; unfold txtQ ZXd Zod; have l3:((if x.num < 0 then [45] else []) ++ Zyb x.num.natAbs:List UInt8).length≤4398046511105 := by
      rw [List.length_append]; split <;> simp <;> omega
    generalize ((if x.num < 0 then [45] else []) ++ Zyb x.num.natAbs:List UInt8) = s at *; rw [Zh, ZNj, Zh, Zh, ZLm]; by_cases hd:x.den = 1
    · rw [hd]; simp [ifb, bnd]
    · have := x.den_nz; rw [decide_eq_true (by omega), ZM, Z0d (by simp; omega), Zh, if_pos (Znf h2), Zh, Z0d (by simp; omega), Zh, Zh, if_neg hd]; simp
  · cases h
noncomputable def Zmg (x:Rat) (y:Rat):Option (Bool) :=
 bnd (ZQd x) fun a =>
 bnd (ZXg y) fun b =>
 some (a == b)
set_option maxRecDepth 100000
theorem ZOb {α:Type} {l:List α} {i:Nat} {d:α} (h:i < l.length):l.getD i d = l[i] := by rw [List.getD_eq_getElem?_getD, List.getElem?_eq_getElem h]; rfl
theorem radd_ok {k m:Nat} {x y:Rat} (h:sz k x) (h':sz m y) (hk:k+m≤1000000000):ZRe x y = some (x+y) := by unfold ZRe; rw [if_pos ⟨h.sm (by omega), h'.sm (by omega)⟩]
theorem Zzl {k m:Nat} {x y:Rat} (h:sz k x) (h':sz m y) (hk:k+m≤1000000000):Zof x y = some (x - y).num.sign := by unfold Zof; rw [if_pos ⟨h.sm (by omega), h'.sm (by omega)⟩]
theorem is1_ok {k:Nat} {x:Rat} (h:sz k x) (hk:k≤1000000000):Zmg x x = some true := by
  unfold Zmg ZQd ZXg; rw [if_pos (h.ok (by omega)), Zh, Zh]; simp
def ZGb {E S R:Type} (f:E→S→R ⊕ S) (fin:S→R):List E→S→R
  | [], s => fin s
  | e :: l, s => match f e s with
    | .inl r => r
    | .inr s' => ZGb f fin l s'
theorem Z9p {E S R σ:Type} {body:σ→Option (σ ⊕ R)} (l:List E) (enc:S→Nat→σ) (f:E→S→R ⊕ S) (fin:S→R) (I:Nat→S→Prop) {s0:S} {s:σ} (hs:enc s0 0 = s) (h0:I 0 s0) (hlen:l.length < 2 ^ 64)
    (h1:∀ i s r, (hi:i < l.length)→I i s→f l[i] s = .inl r→body (enc s i) = some (.inr r)) (h2:∀ i s s', (hi:i < l.length)→I i s→f l[i] s = .inr s'→body (enc s i) = some (.inl (enc s' (i+1)))∧I (i+1) s')
    (he:∀ s, I l.length s→body (enc s l.length) = some (.inr (fin s))):ZZ body Zda s = some (ZGb f fin l s0) := by
  have key:∀ m F i s, i+m = l.length→m < F→I i s→ZZ body F (enc s i) = some (ZGb f fin (l.drop i) s) := by
    intro m
    induction m with
    | zero =>
      intro F i s hi hF hI; obtain ⟨F, rfl⟩:∃ g, F = g+1 := ⟨F - 1, by omega⟩; obtain rfl:i = l.length := by omega
      unfold ZZ; rw [he s hI, Zh, List.drop_length]; rfl
    | succ m ih =>
      intro F i s hi hF hI; obtain ⟨F, rfl⟩:∃ g, F = g+1 := ⟨F - 1, by omega⟩; have hi':i < l.length := by omega
      unfold ZZ; rw [List.drop_eq_getElem_cons hi']; unfold ZGb
      cases hf:f l[i] s with
      | inl r => rw [h1 i s r hi' hI hf, Zh]
      | inr s' =>
        have := h2 i s s' hi' hI hf; rw [this.1, Zh]; exact ih F (i+1) s' (by omega) (by omega) this.2
  rw [← hs]; exact key l.length Zda 0 s0 (by omega) (ZXa (by omega)) h0
theorem Zbk {E S R σ:Type} {body:σ→Option (σ ⊕ R)} (l:List E) (enc:S→Nat→σ) (f:E→S→R ⊕ S) (fin:S→R) (I:Nat→S→Prop) {s0:S} {s:σ} (hs:enc s0 0 = s) (h0:I 0 s0) (hlen:l.length < 2 ^ 64)
    (h1:∀ i s, (hi:i < l.length)→I i s→body (enc s i) = some (match f l[i] s with | .inl r => .inr r | .inr s' => .inl (enc s' (i+1)))) (h2:∀ i s s', (hi:i < l.length)→I i s→f l[i] s = .inr s'→I (i+1) s')
    (he:∀ s, I l.length s→body (enc s l.length) = some (.inr (fin s))):ZZ body Zda s = some (ZGb f fin l s0) :=
  Z9p l enc f fin I hs h0 hlen (fun i s r hi hI hf => by rw [h1 i s hi hI, hf]) (fun i s s' hi hI hf => ⟨by rw [h1 i s hi hI, hf], h2 i s s' hi hI hf⟩) he
def cf (c:Nat→Int):Nat→Nat→Int
  | _, 0 => 0
  | i, m+1 => if c i ≠ 0 then c i else cf c (i+1) m
theorem Z1i {body:Int→Option (Int ⊕ (Int ⊕ Unit))} (c:Nat→Int) (n:Nat) (hn:n < 2 ^ 62) (h1:∀ i, i < n→body (i:Int) = if c i ≠ 0 then some (.inr (.inl (c i))) else some (.inl ((i:Int)+1))) (he:body (n:Int) = some (.inr (.inr ()))) :
    ZZ body Zda 0 = some (if cf c 0 n ≠ 0 then .inl (cf c 0 n) else .inr ()) := by
  have key:∀ m F i, i+m = n→m < F→ZZ body F (i:Int) = some (if cf c i m ≠ 0 then .inl (cf c i m) else .inr ()) := by
    intro m
    induction m with
    | zero =>
      intro F i hi hF; obtain ⟨F, rfl⟩:∃ g, F = g+1 := ⟨F - 1, by omega⟩; obtain rfl:i = n := by omega
      unfold ZZ; rw [he, Zh]; rfl
    | succ m ih =>
      intro F i hi hF; obtain ⟨F, rfl⟩:∃ g, F = g+1 := ⟨F - 1, by omega⟩; unfold ZZ; rw [h1 i (by omega)]; unfold cf; by_cases h:c i ≠ 0
      · rw [if_pos h, Zh, if_pos h, if_pos h]
      · rw [if_neg h, Zh, if_neg h]; exact ih F (i+1) (by omega) (by omega)
  exact key n Zda 0 (by omega) (ZXa (by omega))
theorem ZAm {c:Nat→Int}:∀ m i, cf c i m = 0→∀ j, j < m→c (i+j) = 0
  | 0, _, _, j, h => by omega
  | m+1, i, h0, j, h => by
    unfold cf at h0
    by_cases hc:c i ≠ 0
    · rw [if_pos hc] at h0; exact absurd h0 hc
    · rw [if_neg hc] at h0
      rcases Nat.eq_zero_or_pos j with h1 | h1
      · subst h1; exact Decidable.not_not.1 hc
      · have := ZAm m (i+1) h0 (j - 1) (by omega)
        rw [show i+1+(j - 1) = i+j by omega] at this
        exact this
theorem ZMf {x:Rat}:decide (x.num.sign < 0) = decide (x < 0) := decide_eq_decide.2 Zpl
theorem np_d {x:Rat}:decide (x.num.sign≤0) = decide (x≤0) := decide_eq_decide.2 Znl
theorem le_d {x y:Rat}:decide ((x - y).num.sign≤0) = decide (x≤y) := decide_eq_decide.2 (by rw [Znl]; constructor <;> intro h <;> grind)
theorem or2 (p q:Prop) [Decidable p] [Decidable q]:ifb (decide p) (some true) (some (decide q)) = some (decide (p ∨ q)) := by
  by_cases h:p
  · rw [decide_eq_true h, ZM, decide_eq_true (.inl h)]
  · rw [decide_eq_false h, ZI, show decide (p ∨ q) = decide q from decide_eq_decide.2 ⟨fun k => k.resolve_left h, .inr⟩]
theorem sg (x:Rat):ZHc x = some x.num.sign := rfl
theorem rsg (x:Rat):ZRd x = some x.num.sign := rfl
theorem Ztm {α:Type} (A B:List α) (z v:α):(A ++ z :: B).set A.length v = A ++ v :: B := by
  rw [List.set_append_right _ _ (Nat.le_refl _), Nat.sub_self]; rfl
theorem takeM {α β:Type} (f:α→β) (l:List α) {k:Nat} (h:k < l.length):(l.take (k+1)).map f = (l.take k).map f ++ [f l[k]] := by
  rw [List.take_succ_eq_append_getElem h, List.map_append]; rfl
def Z0a {α β:Type} (f:α→β) (z:β) (l:List α) (k:Nat):List β := (l.take k).map f ++ List.replicate (l.length - k) z
theorem Z1h {α β:Type} (f:α→β) (z:β) (l:List α) {k:Nat} (h:k≤l.length):(Z0a f z l k).length = l.length := by unfold Z0a; simp; omega
theorem ZUh {α β:Type} (f:α→β) (z:β) (l:List α) {k:Nat} (h:k < l.length):(Z0a f z l k).set k (f l[k]) = Z0a f z l (k+1) := by
  unfold Z0a; have e:l.length - k = (l.length - (k+1))+1 := by omega
  have hl:((l.take k).map f).length = k := by simp; omega
  rw [e, List.replicate_succ, takeM f l h]; have := Ztm ((l.take k).map f) (List.replicate (l.length - (k+1)) z) z (f l[k]); rw [hl] at this; rw [this, List.append_assoc]; rfl
theorem Zzi {α β:Type} (f:α→β) (z:β) (l:List α):Z0a f z l l.length = l.map f := by unfold Z0a; simp
theorem ZMj {α β γ:Type} (f:β→Option γ) (g:α→β) (h:α→γ) (e:∀ x, f (g x) = some (h x)):∀ l:List α, mapO f (l.map g) = some (l.map h)
  | [] => rfl
  | x :: l => by rw [List.map_cons, mapO, e x, Zh, ZMj f g h e l, Zh]; rfl
noncomputable def Zki (y:((List UInt8)×Rat×Rat)) (x:((List UInt8)×Rat×Rat)):Option (Bool) :=
 some (y.1 == x.1)
noncomputable def Zsg (l:(List ((List UInt8)×Rat×Rat))) (g:((List UInt8)×Rat×Rat)):Option (Int) :=
 bnd (bnd (ZZ (fun s:Int=>match s with
 | a =>
 (ifb (decide (a < (l.length:Int)))
 (bnd (idx l a) fun b =>
 bnd (Zki ((b.1,b.2.1,b.2.2)) ((g.1,g.2.1,g.2.2))) fun c =>
 ifb (c)
 (some (.inr ((.inl a))))
 (bnd (chk .i64 (a+((1:Int)))) fun d =>
 some (.inl d)))
 (some (.inr ((.inr (()))))))) Zda ((0:Int)))
 (fun (p:(Int) ⊕ (Unit))=>match p with
 | .inl e =>
 (some ((.inr e)))
 | .inr (()) =>
 (some ((.inl (()))))))
 (fun (p:(Unit) ⊕ (Int))=>match p with
 | .inl (()) =>
 (some ((-1:Int)))
 | .inr f =>
 (some f))
noncomputable def Z8i (l:(List ((List UInt8)×Rat×Rat))) (g:((List UInt8)×Rat×Rat)):Option (Bool) :=
 bnd (Zsg l ((g.1,g.2.1,g.2.2))) fun a =>
 some (decide ((0:Int)≤a))
end Go.Eng
namespace Go.Eng
open Go.RowKit
variable {P:Program} {K:Nat} {w0:Base} {v0:Zc} {σ:List (Nat×Value)} {ℓ:List Loc} {v:Zc} {a:Act} {w:World}
def Zjd (l:List UInt8):List Int := l.map fun b => (b.toNat:Int)
theorem ZAf (l:List UInt8):(Zjd l).length = l.length := by simp [Zjd]
theorem Zqn (v:Zc):∀ l:List UInt8, Rep.rels (Zd .u8) v (l.map fun b => Value.int .u8 b.toNat) (Zjd l)
  | [] => rfl
  | b :: l => ⟨[.int .u8 b.toNat], l.map fun b => Value.int .u8 b.toNat, rfl, ⟨rfl, u8_inR b⟩, Zqn v l⟩
theorem St.newView (h:St K w0 v0 σ ℓ v a w) {w':World} {o:Obj} (hx:Ext w w') (hg:w'.heap[w.heap.size]? = some o):
    ∃ v', v.le v'∧v' w.heap.size = some o∧St K w0 v0 σ ℓ v' a w' := by
  have hn := h.vin.none (Nat.le_refl w.heap.size); refine ⟨fun k => if k = w.heap.size then some o else v k, fun k x hk => ?_, by simp, h.step hx ⟨fun k x hk => ?_, fun k x hk => ?_, fun k hk => ?_⟩⟩
  · have:k ≠ w.heap.size := fun e => by subst e; rw [hn] at hk; cases hk
    simp [this, hk]
  · have:k ≠ w.heap.size := fun e => by subst e; rw [hn] at hk; cases hk
    simp [this, hk]
  · by_cases he:k = w.heap.size
    · subst he; simp at hk; subst hk; exact hg
    · simp [he] at hk; exact hx.get (h.vin _ _ hk)
  · have:k ≠ w.heap.size := by omega
    simp [this]
theorem ZXn (hS:St K w0 v0 σ ℓ v a w) {src dst e:TypeId} (l:List UInt8) (hs:P.underlying src = some .string) (hd:P.underlying dst = some (.slice e)) (he:P.underlying e = some (.int .u8)) (hl:l.length≤maxLen) :
    ∃ q k v' w', (∀ {d:Option Nat} {ty:TypeId} {pos:String} {aft:Array Edge} {g:Option (Nat×Bool)} {x:Operand}, ev σ x = some (.string (Zm l))→(execOp a.eval ⟨d, .convert src dst x, ty, pos, aft, g⟩).run P w = .ok (.value (.slice q l.length k)) w') ∧
      v.le v'∧St K w0 v0 σ ℓ v' a w'∧(ZC (Zd .u8)).rel v' [.slice q l.length k] (Zjd l) := by
  have hsz := Z6c l; have hr := run_bytes_of_string (P := P) w src dst e (Zm l) hs hd he; rw [hsz] at hr; have hb:(bytesRow (Zm l) (grownCap w l.length 0 e)).toList.take l.length = l.map fun b => Value.int .u8 b.toNat := by
    simp [bytesRow, Zm]
  have hx:Ext w (w.drew.alloc (.cells (bytesRow (Zm l) (grownCap w l.length 0 e)) e ((bytesRow (Zm l) (grownCap w l.length 0 e)).size, (bytesRow (Zm l) (grownCap w l.length 0 e)).size+1))) := (Ext.drew w).trans (Ext.alloc _ _); obtain ⟨v', h1, h2, h3⟩ := hS.newView hx (heap_alloc_new w.drew _); refine ⟨some ⟨w.heap.size, 0, none⟩, grownCap w l.length 0 e, v', _, fun {d ty pos aft g x} ex => ?_, h1, h3, some ⟨w.heap.size, 0, none⟩, _, by rw [ZAf], by rw [ZAf]; exact grownCap_ge _ _ _ _, grownCap_le_maxLen _ _ _ _ hl, .inr ⟨w.heap.size, 0, _, _, _, rfl, h2, ?_⟩⟩
  · simp [execOp, hS.eval ex, hr]
  · rw [ZAf, List.drop_zero, show (Zd .u8).n = 1 from rfl, Nat.mul_one, hb]; exact Zqn v' l
noncomputable def ZTf (nam:(List UInt8)):Option (Bool) :=
 bnd (ifb (decide ((nam.length:Int) < (1:Int)))
 (some true)
 (some (decide ((24:Int) < (nam.length:Int)))))
 (fun (c:Bool) =>
 (ifb (c)
 (some false)
 (bnd (bnd (ZZ (fun s:Int=>match s with
 | b =>
 (ifb (decide (b < (((Zjd nam)).length:Int)))
 (bnd (idx ((Zjd nam)) b) fun a =>
 bnd (ifb (decide (a < (97:Int)))
 (ifb (decide (a < (48:Int)))
 (some (a != ((45:Int))))
 (ifb (decide ((57:Int) < a))
 (some (a != ((45:Int))))
 (some false)))
 (ifb (decide ((122:Int) < a))
 (ifb (decide (a < (48:Int)))
 (some (a != ((45:Int))))
 (ifb (decide ((57:Int) < a))
 (some (a != ((45:Int))))
 (some false)))
 (some false)))
 (fun (d:Bool) =>
 (ifb (d)
 (some (.inr ((.inl false))))
 (bnd (chk .i64 (b+((1:Int)))) fun e =>
 some (.inl e)))))
 (some (.inr ((.inr (()))))))) Zda ((0:Int)))
 (fun (p:(Bool) ⊕ (Unit))=>match p with
 | .inl f =>
 (some ((.inr f)))
 | .inr (()) =>
 (some ((.inl (()))))))
 (fun (p:(Unit) ⊕ (Bool))=>match p with
 | .inl (()) =>
 (some true)
 | .inr g =>
 (some g)))))
noncomputable def Zpg (r:((List UInt8)×(List (List ((List UInt8)×Rat×Rat))))):Option (Int) :=
 bnd (ZTf r.1) fun e =>
 ifb (!(e))
 (some ((2:Int)))
 (bnd (ifb (decide ((r.2.length:Int) < (1:Int)))
 (some true)
 (some (decide ((6:Int) < (r.2.length:Int)))))
 (fun (f:Bool) =>
 (ifb (f)
 (some ((4:Int)))
 (bnd (bnd (ZZ (fun s:Int=>match s with
 | d =>
 (ifb (decide (d < (r.2.length:Int)))
 (bnd (idx r.2 d) fun b =>
 bnd (ifb (decide ((b.length:Int) < (1:Int)))
 (some true)
 (some (decide ((16:Int) < (b.length:Int)))))
 (fun (g:Bool) =>
 (ifb (g)
 (some (.inr ((.inl ((4:Int))))))
 (bnd (bnd (ZZ (fun s:Int=>match s with
 | c =>
 (ifb (decide (c < (b.length:Int)))
 (bnd (idx b c) fun a =>
 bnd (ZTf a.1) fun h =>
 ifb (!(h))
 (some (.inr ((.inl ((2:Int))))))
 (bnd (Zob b ((0:Int)) c) fun i =>
 bnd (Z8i i ((a.1,a.2.1,a.2.2))) fun j =>
 ifb (j)
 (some (.inr ((.inl ((8:Int))))))
 (bnd (bnd (ZHc a.2.1) fun k =>
 ifb (decide (k≤(0:Int)))
 (some true)
 (bnd (ZHc a.2.2) fun l =>
 ifb (decide (l < (0:Int)))
 (some true)
 (bnd (Znd a.2.2 a.2.1) fun m =>
 some (decide ((0:Int)≤m)))))
 (fun (n:Bool) =>
 (ifb (n)
 (some (.inr ((.inl ((1:Int))))))
 (bnd (chk .i64 (c+((1:Int)))) fun o =>
 some (.inl o)))))))
 (some (.inr ((.inr (()))))))) Zda ((0:Int)))
 (fun (p:(Int) ⊕ (Unit))=>match p with
 | .inl q =>
 (some ((.inr q)))
 | .inr (()) =>
 (some ((.inl (()))))))
 (fun (p:(Unit) ⊕ (Int))=>match p with
 | .inl (()) =>
 (bnd (chk .i64 (d+((1:Int)))) fun t =>
 some (.inl t))
 | .inr u =>
 (some (.inr ((.inl u)))))))))
 (some (.inr ((.inr (()))))))) Zda ((0:Int)))
 (fun (p:(Int) ⊕ (Unit))=>match p with
 | .inl v =>
 (some ((.inr v)))
 | .inr (()) =>
 (some ((.inl (()))))))
 (fun (p:(Unit) ⊕ (Int))=>match p with
 | .inl (()) =>
 (some ((0:Int)))
 | .inr w =>
 (some w))))))
noncomputable def Z5f (nam:(List UInt8)):Option (Bool) :=
 bnd (ifb (decide ((nam.length:Int) < (1:Int)))
 (some true)
 (some (decide ((24:Int) < (nam.length:Int)))))
 (fun (b:Bool) =>
 (ifb (b)
 (some false)
 (bnd (bnd (ZZ (fun s:Int=>match s with
 | a =>
 (ifb (decide (a < (nam.length:Int)))
 (bnd (bnd (idx nam a) fun c =>
 ifb (decide ((97:Int)≤(c.toNat:Int)))
 (bnd (idx nam a) fun d =>
 ifb (decide ((d.toNat:Int)≤(122:Int)))
 (some false)
 (bnd (idx nam a) fun e =>
 ifb (decide ((48:Int)≤(e.toNat:Int)))
 (bnd (idx nam a) fun f =>
 ifb (decide ((f.toNat:Int)≤(57:Int)))
 (some false)
 (bnd (idx nam a) fun g =>
 some (!(((g.toNat:Int)) == ((45:Int))))))
 (bnd (idx nam a) fun h =>
 some (!(((h.toNat:Int)) == ((45:Int)))))))
 (bnd (idx nam a) fun i =>
 ifb (decide ((48:Int)≤(i.toNat:Int)))
 (bnd (idx nam a) fun j =>
 ifb (decide ((j.toNat:Int)≤(57:Int)))
 (some false)
 (bnd (idx nam a) fun k =>
 some (!(((k.toNat:Int)) == ((45:Int))))))
 (bnd (idx nam a) fun l =>
 some (!(((l.toNat:Int)) == ((45:Int)))))))
 (fun (m:Bool) =>
 (ifb (m)
 (some (.inr ((.inl false))))
 (bnd (chk .i64 (a+((1:Int)))) fun n =>
 some (.inl n)))))
 (some (.inr ((.inr (()))))))) Zda ((0:Int)))
 (fun (p:(Bool) ⊕ (Unit))=>match p with
 | .inl o =>
 (some ((.inr o)))
 | .inr (()) =>
 (some ((.inl (()))))))
 (fun (p:(Unit) ⊕ (Bool))=>match p with
 | .inl (()) =>
 (some true)
 | .inr q =>
 (some q)))))
noncomputable def ZOf (l:(List ((List UInt8)×Rat×Rat))) (nam:(List UInt8)):Option (Int) :=
 bnd (bnd (ZZ (fun s:Int=>match s with
 | a =>
 (ifb (decide (a < (l.length:Int)))
 (bnd (idx l a) fun b =>
 ifb (b.1 == nam)
 (some (.inr ((.inl a))))
 (bnd (chk .i64 (a+((1:Int)))) fun c =>
 some (.inl c)))
 (some (.inr ((.inr (()))))))) Zda ((0:Int)))
 (fun (p:(Int) ⊕ (Unit))=>match p with
 | .inl d =>
 (some ((.inr d)))
 | .inr (()) =>
 (some ((.inl (()))))))
 (fun (p:(Unit) ⊕ (Int))=>match p with
 | .inl (()) =>
 (some ((-1:Int)))
 | .inr e =>
 (some e))
noncomputable def ZJh (r:((List UInt8)×(List (List ((List UInt8)×Rat×Rat))))):Option (Int) :=
 bnd (Z5f r.1) fun d =>
 ifb (!(d))
 (some ((2:Int)))
 (bnd (ifb (decide ((r.2.length:Int) < (1:Int)))
 (some true)
 (some (decide ((6:Int) < (r.2.length:Int)))))
 (fun (e:Bool) =>
 (ifb (e)
 (some ((4:Int)))
 (bnd (bnd (ZZ (fun s:Int=>match s with
 | c =>
 (ifb (decide (c < (r.2.length:Int)))
 (bnd (idx r.2 c) fun a =>
 bnd (ifb (decide ((a.length:Int) < (1:Int)))
 (some true)
 (some (decide ((16:Int) < (a.length:Int)))))
 (fun (f:Bool) =>
 (ifb (f)
 (some (.inr ((.inl ((4:Int))))))
 (bnd (bnd (ZZ (fun s:Int=>match s with
 | b =>
 (ifb (decide (b < (a.length:Int)))
 (bnd (idx a b) fun g =>
 bnd (Z5f g.1) fun h =>
 ifb (!(h))
 (some (.inr ((.inl ((2:Int))))))
 (bnd (Zob a ((0:Int)) b) fun i =>
 bnd (idx a b) fun j =>
 bnd (ZOf i j.1) fun k =>
 ifb (decide ((0:Int)≤k))
 (some (.inr ((.inl ((8:Int))))))
 (bnd (bnd (idx a b) fun l =>
 bnd (ZRd l.2.1) fun m =>
 ifb (decide (m≤(0:Int)))
 (some true)
 (bnd (idx a b) fun n =>
 bnd (ZRd n.2.2) fun o =>
 ifb (decide (o < (0:Int)))
 (some true)
 (bnd (idx a b) fun q =>
 bnd (idx a b) fun t =>
 bnd (Zof q.2.2 t.2.1) fun u =>
 some (decide ((0:Int)≤u)))))
 (fun (v:Bool) =>
 (ifb (v)
 (some (.inr ((.inl ((1:Int))))))
 (bnd (chk .i64 (b+((1:Int)))) fun w =>
 some (.inl w)))))))
 (some (.inr ((.inr (()))))))) Zda ((0:Int)))
 (fun (p:(Int) ⊕ (Unit))=>match p with
 | .inl x =>
 (some ((.inr x)))
 | .inr (()) =>
 (some ((.inl (()))))))
 (fun (p:(Unit) ⊕ (Int))=>match p with
 | .inl (()) =>
 (bnd (chk .i64 (c+((1:Int)))) fun y =>
 some (.inl y))
 | .inr z =>
 (some (.inr ((.inl z)))))))))
 (some (.inr ((.inr (()))))))) Zda ((0:Int)))
 (fun (p:(Int) ⊕ (Unit))=>match p with
 | .inl A =>
 (some ((.inr A)))
 | .inr (()) =>
 (some ((.inl (()))))))
 (fun (p:(Unit) ⊕ (Int))=>match p with
 | .inl (()) =>
 (some ((0:Int)))
 | .inr B =>
 (some B))))))
set_option maxRecDepth 100000
theorem Zdl {E β:Type} {l:List E} {body:Int→Option (Int ⊕ (β ⊕ Unit))} (p:E→Bool) (g:Nat→β) (hl:l.length < 2 ^ 62)
    (h1:∀ i, (hi:i < l.length)→body (i:Int) = if p l[i] = true then some (.inr (.inl (g i))) else some (.inl ((i:Int)+1))) (he:body (l.length:Int) = some (.inr (.inr ()))) :
    ZZ body Zda 0 = some (match l.findIdx? p with | some k => .inl (g k) | none => .inr ()) := by
  have key:∀ m F i, i+m = l.length→m < F→ZZ body F (i:Int) = some (match (l.drop i).findIdx? p with | some k => .inl (g (i+k)) | none => .inr ()) := by
    intro m
    induction m with
    | zero =>
      intro F i hi hF; obtain ⟨F, rfl⟩:∃ g, F = g+1 := ⟨F - 1, by omega⟩; obtain rfl:i = l.length := by omega
      unfold ZZ; rw [he, Zh, List.drop_length]; rfl
    | succ m ih =>
      intro F i hi hF; obtain ⟨F, rfl⟩:∃ g, F = g+1 := ⟨F - 1, by omega⟩; have hi':i < l.length := by omega
      unfold ZZ; rw [h1 i hi', List.drop_eq_getElem_cons hi', List.findIdx?_cons]; by_cases h:p l[i] = true
      · rw [if_pos h, Zh, if_pos h]; rfl
      · rw [if_neg h, Zh, if_neg h]; have := ih F (i+1) (by omega) (by omega); rw [show ((i:Int)+1) = ((i+1:Nat):Int) by omega]; refine this.trans ?_
        cases List.findIdx? p (l.drop (i+1)) with
        | none => rfl
        | some k => simp only [Option.map_some]; rw [show i+1+k = i+(k+1) by omega]
  have := key l.length Zda 0 (by omega) (ZXa (by omega)); rw [List.drop_zero] at this; refine this.trans ?_
  cases List.findIdx? p l with
  | none => rfl
  | some k => simp only [Nat.zero_add]
abbrev BS := List UInt8
abbrev IT := BS×Rat×Rat
abbrev RCP := BS×List (List IT)
def ZCc (y:Int):Bool := bif decide (y < 97) then (bif decide (y < 48) then y != 45 else bif decide (57 < y) then y != 45 else false) else bif decide (122 < y) then (bif decide (y < 48) then y != 45 else bif decide (57 < y) then y != 45 else false) else false
theorem bad1_m (y:Int):(ifb (decide (y < (97:Int)))
  (ifb (decide (y < (48:Int)))
  (some (y != ((45:Int))))
  (ifb (decide ((57:Int) < y))
  (some (y != ((45:Int))))
  (some false)))
  (ifb (decide ((122:Int) < y))
  (ifb (decide (y < (48:Int)))
  (some (y != ((45:Int))))
  (ifb (decide ((57:Int) < y))
  (some (y != ((45:Int))))
  (some false)))
  (some false))) = some (ZCc y) := by
  unfold ZCc; generalize decide (y < 97) = a; generalize decide (y < 48) = b; generalize decide (57 < y) = c; generalize decide (122 < y) = d
  cases a <;> cases b <;> cases c <;> cases d <;> rfl
theorem bad2_m (y:Int):(ifb (decide ((97:Int)≤y))
  (ifb (decide (y≤(122:Int)))
  (some false)
  (ifb (decide ((48:Int)≤y))
  (ifb (decide (y≤(57:Int)))
  (some false)
  (some (!(y == ((45:Int))))))
  (some (!(y == ((45:Int)))))))
  (ifb (decide ((48:Int)≤y))
  (ifb (decide (y≤(57:Int)))
  (some false)
  (some (!(y == ((45:Int))))))
  (some (!(y == ((45:Int))))))) = some (ZCc y) := by
  unfold ZCc; rw [show decide ((97:Int)≤y) = !decide (y < 97) by rw [← decide_not]; exact decide_eq_decide.2 (by omega), show decide (y≤(122:Int)) = !decide (122 < y) by rw [← decide_not]; exact decide_eq_decide.2 (by omega),
    show decide ((48:Int)≤y) = !decide (y < 48) by rw [← decide_not]; exact decide_eq_decide.2 (by omega), show decide (y≤(57:Int)) = !decide (57 < y) by rw [← decide_not]; exact decide_eq_decide.2 (by omega)]
  generalize decide (y < 97) = a; generalize decide (y < 48) = b; generalize decide (57 < y) = c; generalize decide (122 < y) = d
  cases a <;> cases b <;> cases c <;> cases d <;> rfl
def Zpd (s:BS):Bool := bif decide ((s.length:Int) < 1) || decide ((24:Int) < s.length) then false else (s.findIdx? fun c => ZCc c.toNat).isNone
theorem or_m (a b:Bool):ifb a (some true) (some b) = some (a || b) := by cases a <;> rfl
theorem Z1l (s:BS) (h:s.length≤maxLen):ZTf s = some (Zpd s) := by
  unfold ZTf Zpd; unfold maxLen at h; rw [or_m, Zh]; generalize hb:(decide ((s.length:Int) < 1) || decide ((24:Int) < s.length)) = b
  cases b with
  | true => rw [ZM]; rfl
  | false =>
    have hlen:s.length≤24 := by simp at hb; omega
    rw [ZI]; refine Zab (y := match s.findIdx? fun c => ZCc c.toNat with | some k => .inr false | none => .inl ()) (Zab (Zdl (l := s) (fun c => ZCc c.toNat) (fun _ => false) (by omega) (fun i hi => ?_) ?_) ?_) ?_
    · have hi':i < (Zjd s).length := by rw [ZAf]; exact hi
      have e:(Zjd s)[i] = (s[i].toNat:Int) := by simp [Zjd]
      simp only; rw [ZAf, decide_eq_true (by omega), ZM, Z5 hi', Zh, e, bad1_m, Zh]
      cases ZCc s[i].toNat with
      | true => rw [ZM, if_pos rfl]
      | false => rw [ZI, Zsa (by omega) (by omega), Zh, if_neg (by decide)]
    · simp only; rw [ZAf, decide_eq_false (by omega), ZI]
    · cases s.findIdx? fun c => ZCc c.toNat <;> rfl
    · cases s.findIdx? fun c => ZCc c.toNat <;> rfl
theorem ZGm (s:BS) (h:s.length≤maxLen):Z5f s = some (Zpd s) := by
  unfold Z5f Zpd; unfold maxLen at h; rw [or_m, Zh]; generalize hb:(decide ((s.length:Int) < 1) || decide ((24:Int) < s.length)) = b
  cases b with
  | true => rw [ZM]; rfl
  | false =>
    have hlen:s.length≤24 := by simp at hb; omega
    rw [ZI]; refine Zab (y := match s.findIdx? fun c => ZCc c.toNat with | some k => .inr false | none => .inl ()) (Zab (Zdl (l := s) (fun c => ZCc c.toNat) (fun _ => false) (by omega) (fun i hi => ?_) ?_) ?_) ?_
    · simp only; rw [decide_eq_true (by omega), ZM, Z5 hi]; simp only [Zh]; rw [bad2_m, Zh]
      cases ZCc s[i].toNat with
      | true => rw [ZM, if_pos rfl]
      | false => rw [ZI, Zsa (by omega) (by omega), Zh, if_neg (by decide)]
    · simp only; rw [decide_eq_false (by omega), ZI]
    · cases s.findIdx? fun c => ZCc c.toNat <;> rfl
    · cases s.findIdx? fun c => ZCc c.toNat <;> rfl
def ZZb {α:Type} (l:List (BS×α)) (s:BS):Int := match l.findIdx? fun x => x.1 == s with | some k => k | none => -1
theorem ZCk {α:Type} {l:List (BS×α)} {s:BS} {body:Int→Option (Int ⊕ (Int ⊕ Unit))} (hl:l.length < 2 ^ 62)
    (h1:∀ i, (hi:i < l.length)→body (i:Int) = if (l[i].1 == s) = true then some (.inr (.inl (i:Int))) else some (.inl ((i:Int)+1))) (he:body (l.length:Int) = some (.inr (.inr ()))) :
    bnd (bnd (ZZ body Zda 0) (fun (p:(Int) ⊕ (Unit)) => match p with
  | .inl x55 =>
  (some ((.inr x55)))
  | .inr (()) =>
  (some ((.inl (())))))) (fun (p:(Unit) ⊕ (Int)) => match p with
  | .inl (()) =>
  (some ((-1:Int)))
  | .inr x42 =>
  (some x42)) = some (ZZb l s) := by
  rw [Zdl (l := l) (fun x => x.1 == s) (fun i => (i:Int)) hl h1 he]; unfold ZZb
  cases l.findIdx? fun x => x.1 == s <;> rfl
theorem ZGq (l:List IT) (x:IT) (hl:l.length≤1000):Zsg l x = some (ZZb l x.1) := by
  unfold Zsg Zki; refine ZCk (by omega) (fun i hi => ?_) ?_
  · simp only; rw [decide_eq_true (by omega), ZM, Z5 hi, Zh, Zh]
    cases l[i].1 == x.1 with
    | true => rw [ZM, if_pos rfl]
    | false => rw [ZI, Zsa (by omega) (by omega), Zh, if_neg (by decide)]
  · simp only; rw [decide_eq_false (by omega), ZI]
theorem ZFn (l:List IT) (s:BS) (hl:l.length≤1000):ZOf l s = some (ZZb l s) := by
  unfold ZOf; refine ZCk (by omega) (fun i hi => ?_) ?_
  · simp only; rw [decide_eq_true (by omega), ZM, Z5 hi, Zh]
    cases l[i].1 == s with
    | true => rw [ZM, if_pos rfl]
    | false => rw [ZI, Zsa (by omega) (by omega), Zh, if_neg (by decide)]
  · simp only; rw [decide_eq_false (by omega), ZI]
abbrev gI (l:List IT) (i:Nat):IT := l.getD i ([], 0, 0)
abbrev gS (l:List (List IT)) (i:Nat):List IT := l.getD i []
def cI (l:List IT) (i:Nat):Int := if Zpd (gI l i).1 = false then 2 else if 0≤ZZb (l.take i) (gI l i).1 then 8 else if (gI l i).2.1≤0 ∨ (gI l i).2.2 < 0 ∨ (gI l i).2.1≤(gI l i).2.2 then 1 else 0
def cS (l:List (List IT)) (i:Nat):Int := if (gS l i).length < 1 ∨ 16 < (gS l i).length then 4 else cf (cI (gS l i)) 0 (gS l i).length
def ZIc (r:RCP):Int := if Zpd r.1 = false then 2 else if r.2.length < 1 ∨ 6 < r.2.length then 4 else cf (cS r.2) 0 r.2.length
structure SzRc (r:RCP):Prop where
  nam:r.1.length≤maxLen
  it:∀ l ∈ r.2, ∀ x ∈ l, x.1.length≤maxLen∧sz 64 x.2.1∧sz 64 x.2.2
theorem ge_d {x y:Rat}:decide ((0:Int)≤(x - y).num.sign) = decide (y≤x) := decide_eq_decide.2 (by rw [Ztq]; constructor <;> intro h <;> grind)
theorem or3 (p q r:Prop) [Decidable p] [Decidable q] [Decidable r]:ifb (decide p) (some true) (ifb (decide q) (some true) (some (decide r))) = some (decide (p ∨ q ∨ r)) := by
  by_cases h:p
  · rw [decide_eq_true h, ZM, decide_eq_true (.inl h)]
  · rw [decide_eq_false h, ZI]; by_cases h2:q
    · rw [decide_eq_true h2, ZM, decide_eq_true (.inr (.inl h2))]
    · rw [decide_eq_false h2, ZI]; congr 1; exact decide_eq_decide.2 ⟨fun k => .inr (.inr k), fun k => by rcases k with k | k | k; exact absurd k h; exact absurd k h2; exact k⟩
theorem Zzj (b:Int) (hx:True):(match (if b ≠ 0 then (.inl b:Int ⊕ Unit) else .inr ()) with | .inl x => some (.inr x:Unit ⊕ Int) | .inr () => some (.inl ())) = some (if b ≠ 0 then .inr b else .inl ()) := by
  by_cases h:b ≠ 0
  · rw [if_pos h, if_pos h]
  · rw [if_neg h, if_neg h]
theorem ZBn {α:Type} (l:List α) {k:Nat} (h:k≤l.length):Zob l (0:Int) (k:Int) = some (l.take k) := by
  unfold Zob; rw [if_pos ⟨by omega, by omega, by omega⟩]; simp
theorem ZIo {r:RCP} (h:SzRc r):Zpg r = some (ZIc r) := by
  unfold Zpg ZIc; rw [Z1l _ h.nam, Zh]
  cases hn:Zpd r.1 with
  | false => rw [if_pos rfl]; rfl
  | true =>
  simp only [Bool.not_true, ZI]; rw [if_neg (by decide), or2, Zh]; by_cases h0:r.2.length < 1 ∨ 6 < r.2.length
  · rw [decide_eq_true (by omega), ZM, if_pos h0]
  rw [decide_eq_false (by omega), ZI, if_neg h0]; refine Zab (y := if cf (cS r.2) 0 r.2.length ≠ 0 then .inr (cf (cS r.2) 0 r.2.length) else .inl ()) (Zab (Z1i (cS r.2) r.2.length (by omega) (fun i hi => ?_) ?_) (Zzj _ trivial)) ?_
  · have g := ZOb (l := r.2) (d := []) hi; have hit := h.it r.2[i] (List.getElem_mem hi)
    skip
    rw [decide_eq_true (by omega), ZM, Z5 hi, Zh, or2, Zh]; unfold cS; unfold gS; rw [g]; generalize r.2[i] = L at hit; by_cases k0:L.length < 1 ∨ 16 < L.length
    · rw [decide_eq_true (by omega), ZM, if_pos k0, if_pos (by decide)]
    rw [decide_eq_false (by omega), ZI, if_neg k0]; refine Zab (y := if cf (cI L) 0 L.length ≠ 0 then .inr (cf (cI L) 0 L.length) else .inl ()) (Zab (Z1i (cI L) L.length (by omega) (fun k hk => ?_) ?_) (Zzj _ trivial)) ?_
    · have g2 := ZOb (l := L) (d := (([], 0, 0):IT)) hk; obtain ⟨z0, z1, z2⟩ := hit L[k] (List.getElem_mem hk)
      skip
      rw [decide_eq_true (by omega), ZM, Z5 hk, Zh, Z1l _ z0, Zh]; unfold cI; unfold gI; rw [g2]; generalize L[k] = x at *
      cases hnx:Zpd x.1 with
      | false => rw [if_pos rfl]; rfl
      | true =>
      simp only [Bool.not_true, ZI]; rw [if_neg (show ¬ (true = false) by decide), ZBn _ (by omega), Zh]; unfold Z8i; rw [ZGq _ _ (by simp; omega), Zh, Zh]; by_cases k1:0≤ZZb (L.take k) x.1
      · rw [decide_eq_true k1, ZM, if_pos k1, if_pos (by decide)]
      rw [decide_eq_false k1, ZI, if_neg k1, sg, Zh, sg, Zh, Zml z2 z1 (by omega), Zh, np_d, ZMf, ge_d, or3, Zh]; by_cases k2:x.2.1≤0 ∨ x.2.2 < 0 ∨ x.2.1≤x.2.2
      · rw [decide_eq_true k2, ZM, if_pos k2, if_pos (by decide)]
      · rw [decide_eq_false k2, ZI, if_neg k2, Zsa (by omega) (by omega), Zh, if_neg (by decide)]
    · skip
      rw [decide_eq_false (by omega), ZI]
    · generalize cf (cI L) 0 L.length = b; by_cases hb:b ≠ 0
      · rw [if_pos hb, if_pos hb]
      · rw [if_neg hb, if_neg hb]; simp only; rw [Zsa (by omega) (by omega), Zh]
  · skip
    rw [decide_eq_false (by omega), ZI]
  · generalize cf (cS r.2) 0 r.2.length = b; by_cases hb:b ≠ 0
    · rw [if_pos hb]
    · rw [if_neg hb, Decidable.not_not.1 hb]
theorem Ztp {r:RCP} (h:SzRc r):ZJh r = some (ZIc r) := by
  unfold ZJh ZIc; rw [ZGm _ h.nam, Zh]
  cases hn:Zpd r.1 with
  | false => rw [if_pos rfl]; rfl
  | true =>
  simp only [Bool.not_true, ZI]; rw [if_neg (by decide), or2, Zh]; by_cases h0:r.2.length < 1 ∨ 6 < r.2.length
  · rw [decide_eq_true (by omega), ZM, if_pos h0]
  rw [decide_eq_false (by omega), ZI, if_neg h0]; refine Zab (y := if cf (cS r.2) 0 r.2.length ≠ 0 then .inr (cf (cS r.2) 0 r.2.length) else .inl ()) (Zab (Z1i (cS r.2) r.2.length (by omega) (fun i hi => ?_) ?_) (Zzj _ trivial)) ?_
  · have g := ZOb (l := r.2) (d := []) hi; have hit := h.it r.2[i] (List.getElem_mem hi)
    skip
    rw [decide_eq_true (by omega), ZM, Z5 hi, Zh, or2, Zh]; unfold cS; unfold gS; rw [g]; generalize r.2[i] = L at hit; by_cases k0:L.length < 1 ∨ 16 < L.length
    · rw [decide_eq_true (by omega), ZM, if_pos k0, if_pos (by decide)]
    rw [decide_eq_false (by omega), ZI, if_neg k0]; refine Zab (y := if cf (cI L) 0 L.length ≠ 0 then .inr (cf (cI L) 0 L.length) else .inl ()) (Zab (Z1i (cI L) L.length (by omega) (fun k hk => ?_) ?_) (Zzj _ trivial)) ?_
    · have g2 := ZOb (l := L) (d := (([], 0, 0):IT)) hk; obtain ⟨z0, z1, z2⟩ := hit L[k] (List.getElem_mem hk)
      skip
      rw [decide_eq_true (by omega), ZM, Z5 hk]; simp only [Zh]; rw [ZGm _ z0, Zh]; unfold cI; unfold gI; rw [g2]; generalize L[k] = x at *
      cases hnx:Zpd x.1 with
      | false => rw [if_pos rfl]; rfl
      | true =>
      simp only [Bool.not_true, ZI]; rw [if_neg (show ¬ (true = false) by decide), ZBn _ (by omega), Zh, ZFn _ _ (by simp; omega), Zh]; by_cases k1:0≤ZZb (L.take k) x.1
      · rw [decide_eq_true k1, ZM, if_pos k1, if_pos (by decide)]
      rw [decide_eq_false k1, ZI, if_neg k1, rsg, Zh, rsg, Zh, Zzl z2 z1 (by omega), Zh, np_d, ZMf, ge_d, or3, Zh]; by_cases k2:x.2.1≤0 ∨ x.2.2 < 0 ∨ x.2.1≤x.2.2
      · rw [decide_eq_true k2, ZM, if_pos k2, if_pos (by decide)]
      · rw [decide_eq_false k2, ZI, if_neg k2, Zsa (by omega) (by omega), Zh, if_neg (by decide)]
    · skip
      rw [decide_eq_false (by omega), ZI]
    · generalize cf (cI L) 0 L.length = b; by_cases hb:b ≠ 0
      · rw [if_pos hb, if_pos hb]
      · rw [if_neg hb, if_neg hb]; simp only; rw [Zsa (by omega) (by omega), Zh]
  · skip
    rw [decide_eq_false (by omega), ZI]
  · generalize cf (cS r.2) 0 r.2.length = b; by_cases hb:b ≠ 0
    · rw [if_pos hb]
    · rw [if_neg hb, Decidable.not_not.1 hb]
noncomputable def ZBj (x:((List UInt8)×Rat×Rat)) (y:((List UInt8)×Rat)):Option (Bool) :=
 some (x.1 == y.1)
noncomputable def ZDg (l:(List ((List UInt8)×Rat×Rat))) (g:((List UInt8)×Rat)):Option (Int) :=
 bnd (bnd (ZZ (fun s:Int=>match s with
 | a =>
 (ifb (decide (a < (l.length:Int)))
 (bnd (idx l a) fun b =>
 bnd (ZBj ((b.1,b.2.1,b.2.2)) ((g.1,g.2))) fun c =>
 ifb (c)
 (some (.inr ((.inl a))))
 (bnd (chk .i64 (a+((1:Int)))) fun d =>
 some (.inl d)))
 (some (.inr ((.inr (()))))))) Zda ((0:Int)))
 (fun (p:(Int) ⊕ (Unit))=>match p with
 | .inl e =>
 (some ((.inr e)))
 | .inr (()) =>
 (some ((.inl (()))))))
 (fun (p:(Unit) ⊕ (Int))=>match p with
 | .inl (()) =>
 (some ((-1:Int)))
 | .inr f =>
 (some f))
noncomputable def Z9g (x:Rat):Option (Rat) :=
 bnd (ZHc x) fun a =>
 ifb (decide (a < (0:Int)))
 (bnd (ZGe x) fun b =>
 some b)
 (some x)
noncomputable def ZGf (r:((List UInt8)×(List (List ((List UInt8)×Rat×Rat))))) (stage:Int) (l:(List ((List UInt8)×Rat))):Option ((List ((List UInt8)×Rat×Bool))×Int) :=
 bnd (Zpg ((r.1,r.2))) fun k =>
 ifb (k != ((0:Int)))
 (some ((([]:(List ((List UInt8)×Rat×Bool))),k)))
 (bnd (ifb (decide (stage < (0:Int)))
 (some true)
 (some (decide ((r.2.length:Int)≤stage))))
 (fun (q:Bool) =>
 (ifb (q)
 (some ((([]:(List ((List UInt8)×Rat×Bool))),(1:Int))))
 (ifb (decide ((64:Int) < (l.length:Int)))
 (some ((([]:(List ((List UInt8)×Rat×Bool))),(4:Int))))
 (bnd (idx r.2 stage) fun b =>
 bnd (bnd (ZZ (fun s:(List ((List UInt8)×Rat×Bool))×Int=>match s with
 | (g,h) =>
 (ifb (decide (h < (b.length:Int)))
 (bnd (idx b h) fun i =>
 bnd (ZGe i.2.1) fun m =>
 bnd (Z3a 80 (g ++ [(i.1,m,false)])) fun N =>
 bnd (chk .i64 (h+((1:Int)))) fun t =>
 some (.inl (((g ++ [(i.1,m,false)]),t))))
 (some (.inr g)))) Zda ((([]:(List ((List UInt8)×Rat×Bool))),(0:Int))))
 (fun (u:(List ((List UInt8)×Rat×Bool))) =>
 (some u)))
 (fun (v:(List ((List UInt8)×Rat×Bool))) =>
 (bnd (bnd (ZZ (fun s:(List ((List UInt8)×Rat×Bool))×Int=>match s with
 | (c,j) =>
 (ifb (decide (j < (l.length:Int)))
 (bnd (idx l j) fun d =>
 bnd (ZDg b ((d.1,d.2))) fun e =>
 ifb (decide (e < (0:Int)))
 (some (.inr ((.inl ((([]:(List ((List UInt8)×Rat×Bool))),(5:Int)))))))
 (bnd (ZHc d.2) fun w =>
 ifb (decide (w < (0:Int)))
 (some (.inr ((.inl ((([]:(List ((List UInt8)×Rat×Bool))),(1:Int)))))))
 (bnd (idx c e) fun x =>
 bnd (Z7c x.2.1 d.2) fun y =>
 bnd (idx c e) fun n =>
 bnd (chk .i64 (j+((1:Int)))) fun z =>
 some (.inl (((c.set (e).toNat ((n.1,y,n.2.2))),z))))))
 (some (.inr ((.inr c)))))) Zda ((v,(0:Int))))
 (fun (p:((List ((List UInt8)×Rat×Bool))×Int) ⊕ ((List ((List UInt8)×Rat×Bool))))=>match p with
 | .inl ((A,B)) =>
 (some ((.inr ((A,B)))))
 | .inr C =>
 (some ((.inl C)))))
 (fun (p:((List ((List UInt8)×Rat×Bool))) ⊕ ((List ((List UInt8)×Rat×Bool))×Int))=>match p with
 | .inl D =>
 (bnd (bnd (ZZ (fun s:(List ((List UInt8)×Rat×Bool))×Int=>match s with
 | (f,a) =>
 (ifb (decide (a < (b.length:Int)))
 (bnd (idx b a) fun E =>
 bnd (idx f a) fun F =>
 bnd (Z9g F.2.1) fun G =>
 bnd (Znd G E.2.2) fun H =>
 bnd (idx f a) fun o =>
 bnd (chk .i64 (a+((1:Int)))) fun I =>
 some (.inl (((f.set (a).toNat ((o.1,o.2.1,decide (H≤(0:Int))))),I))))
 (some (.inr f)))) Zda ((D,(0:Int))))
 (fun (J:(List ((List UInt8)×Rat×Bool))) =>
 (some J)))
 (fun (K:(List ((List UInt8)×Rat×Bool))) =>
 (some ((K,(0:Int))))))
 | .inr ((L,M)) =>
 (some ((L,M)))))))))))
noncomputable def Zkh (x:Rat):Option (Rat) :=
 bnd (ZRd x) fun a =>
 ifb (decide (a < (0:Int)))
 (bnd (Zwd x) fun b =>
 some b)
 (some x)
noncomputable def Zyf (r:((List UInt8)×(List (List ((List UInt8)×Rat×Rat))))) (stage:Int) (l:(List ((List UInt8)×Rat))):Option ((List ((List UInt8)×Rat×Bool))×Int) :=
 bnd (ZJh ((r.1,r.2))) fun i =>
 ifb (i != ((0:Int)))
 (some ((([]:(List ((List UInt8)×Rat×Bool))),i)))
 (bnd (ifb (decide (stage < (0:Int)))
 (some true)
 (some (decide ((r.2.length:Int)≤stage))))
 (fun (m:Bool) =>
 (ifb (m)
 (some ((([]:(List ((List UInt8)×Rat×Bool))),(1:Int))))
 (ifb (decide ((64:Int) < (l.length:Int)))
 (some ((([]:(List ((List UInt8)×Rat×Bool))),(4:Int))))
 (bnd (idx r.2 stage) fun a =>
 bnd (mk 80 ((a.length:Int)) ((a.length:Int))) fun T =>
 bnd (bnd (ZZ (fun s:(List ((List UInt8)×(Option Rat)×Bool))×Int=>match s with
 | (h,b) =>
 (ifb (decide (b < (a.length:Int)))
 (bnd (idx a b) fun n =>
 bnd (idx a b) fun o =>
 bnd (Zwd o.2.1) fun q =>
 bnd (idx h b) fun U =>
 bnd (chk .i64 (b+((1:Int)))) fun t =>
 some (.inl (((h.set (b).toNat ((n.1,(some q),false))),t))))
 (some (.inr h)))) Zda (((List.replicate ((a.length:Int)).toNat ((([]:List UInt8),(none:Option Rat),false))),(0:Int))))
 (fun (u:(List ((List UInt8)×(Option Rat)×Bool))) =>
 (some u)))
 (fun (v:(List ((List UInt8)×(Option Rat)×Bool))) =>
 (bnd (bnd (ZZ (fun s:(List ((List UInt8)×(Option Rat)×Bool))×Int=>match s with
 | (f,d) =>
 (ifb (decide (d < (l.length:Int)))
 (bnd (idx l d) fun w =>
 bnd (ZOf a w.1) fun g =>
 ifb (decide (g < (0:Int)))
 (some (.inr ((.inl ((([]:(List ((List UInt8)×Rat×Bool))),(5:Int)))))))
 (bnd (idx l d) fun x =>
 bnd (ZRd x.2) fun y =>
 ifb (decide (y < (0:Int)))
 (some (.inr ((.inl ((([]:(List ((List UInt8)×Rat×Bool))),(1:Int)))))))
 (bnd (idx f g) fun z =>
 bnd (idx l d) fun A =>
 bnd (coQ z.2.1) fun B =>
 bnd (ZRe B A.2) fun C =>
 bnd (idx f g) fun j =>
 bnd (chk .i64 (d+((1:Int)))) fun D =>
 some (.inl (((f.set (g).toNat ((j.1,(some C),j.2.2))),D))))))
 (some (.inr ((.inr f)))))) Zda ((v,(0:Int))))
 (fun (p:((List ((List UInt8)×Rat×Bool))×Int) ⊕ ((List ((List UInt8)×(Option Rat)×Bool))))=>match p with
 | .inl ((E,F)) =>
 (some ((.inr ((E,F)))))
 | .inr G =>
 (some ((.inl G)))))
 (fun (p:((List ((List UInt8)×(Option Rat)×Bool))) ⊕ ((List ((List UInt8)×Rat×Bool))×Int))=>match p with
 | .inl H =>
 (bnd (bnd (ZZ (fun s:(List ((List UInt8)×(Option Rat)×Bool))×Int=>match s with
 | (e,c) =>
 (ifb (decide (c < (e.length:Int)))
 (bnd (idx e c) fun I =>
 bnd (coQ I.2.1) fun J =>
 bnd (Zkh J) fun K =>
 bnd (idx a c) fun L =>
 bnd (Zof K L.2.2) fun M =>
 bnd (idx e c) fun k =>
 bnd (chk .i64 (c+((1:Int)))) fun N =>
 some (.inl (((e.set (c).toNat ((k.1,k.2.1,decide (M≤(0:Int))))),N))))
 (some (.inr e)))) Zda ((H,(0:Int))))
 (fun (O:(List ((List UInt8)×(Option Rat)×Bool))) =>
 (some O)))
 (fun (P:(List ((List UInt8)×(Option Rat)×Bool))) =>
 (bnd (mapO (coP coI (coP coQ coI)) P) fun Q =>
 some ((Q,(0:Int))))))
 | .inr ((R,S)) =>
 (some ((R,S)))))))))))
set_option maxRecDepth 100000
abbrev AM := BS×Rat
abbrev DV := BS×Rat×Bool
abbrev DVo := BS×Option Rat×Bool
def oD (x:DV):DVo := (x.1, some x.2.1, x.2.2)
theorem ZWq (l:List IT) (a:AM) (hl:l.length≤1000):ZDg l a = some (ZZb l a.1) := by
  unfold ZDg ZBj; refine ZCk (by omega) (fun i hi => ?_) ?_
  · simp only; rw [decide_eq_true (by omega), ZM, Z5 hi, Zh, Zh]
    cases l[i].1 == a.1 with
    | true => rw [ZM, if_pos rfl]
    | false => rw [ZI, Zsa (by omega) (by omega), Zh, if_neg (by decide)]
  · simp only; rw [decide_eq_false (by omega), ZI]
theorem Z6k {α:Type} {l:List (BS×α)} {s:BS} (h:¬ ZZb l s < 0):∃ k:Nat, ZZb l s = k∧k < l.length := by
  unfold ZZb at *
  cases e:l.findIdx? fun x => x.1 == s with
  | none => rw [e] at h; exact absurd (by decide) h
  | some k =>
    rw [List.findIdx?_eq_some_iff_getElem] at e; exact ⟨k, rfl, e.1⟩
def abQ (x:Rat):Rat := if x < 0 then -x else x
theorem Zzn {k:Nat} {x:Rat} (h:sz k x):sz k (abQ x) := by
  unfold abQ; split
  · exact Zoi h
  · exact h
theorem size_eq {k:Nat} {x:Rat} (h:sz k x) (hk:k≤1000000):Z9g x = some (abQ x) := by
  unfold Z9g abQ; rw [sg, Zh, ZMf]; by_cases h1:x < 0
  · rw [decide_eq_true h1, ZM, if_pos h1]; rfl
  · rw [decide_eq_false h1, ZI, if_neg h1]
theorem Zxp {k:Nat} {x:Rat} (h:sz k x) (hk:k≤1000000):Zkh x = some (abQ x) := by
  unfold Zkh abQ; rw [rsg, Zh, ZMf]; by_cases h1:x < 0
  · have:Zwd x = some (-x) := by unfold Zwd; rw [if_pos (h.ok (by omega))]
    rw [decide_eq_true h1, ZM, if_pos h1, this, Zh]
  · rw [decide_eq_false h1, ZI, if_neg h1]
def d0 (x:IT):DV := (x.1, -x.2.1, false)
abbrev gD' (l:List DV) (i:Nat):DV := l.getD i ([], 0, false)
def ZLb (it:List IT) (a:AM) (out:List DV):((List DV×Int) ⊕ List DV) ⊕ List DV :=
  if ZZb it a.1 < 0 then .inl (.inl ([], 5)) else if a.2 < 0 then .inl (.inl ([], 1)) else
    .inr (out.set (ZZb it a.1).toNat ((gD' out (ZZb it a.1).toNat).1, (gD' out (ZZb it a.1).toNat).2.1+a.2, (gD' out (ZZb it a.1).toNat).2.2))
def inW (it:List IT):List DV→Nat→List DV
  | out, 0 => out
  | out, k+1 => (inW it out k).set k ((gD' (inW it out k) k).1, (gD' (inW it out k) k).2.1, decide (abQ (gD' (inW it out k) k).2.1≤(gI it k).2.2))
def szD (k:Nat) (l:List DV):Prop := ∀ i, i < l.length→sz k (gD' l i).2.1
theorem ZHl {k:Nat} {l:List DV} (h:szD k l) {i:Nat} {x:DV} (hx:sz k x.2.1):szD k (l.set i x) := by
  intro j hj; rw [List.length_set] at hj; have := h j hj; unfold gD' at *; rw [ZOb (by simpa using hj)]; rw [ZOb hj] at this; rw [List.getElem_set]; split
  · exact hx
  · exact this
theorem Z2e (it:List IT) (out:List DV):∀ k, (inW it out k).length = out.length
  | 0 => rfl
  | k+1 => by unfold inW; rw [List.length_set, Z2e it out k]
theorem Zyj {it:List IT} {out:List DV} {n:Nat} (h:szD n out):∀ k, k≤out.length→szD n (inW it out k)
  | 0, _ => h
  | k+1, hk => by
    have ih := Zyj (it := it) h k (by omega)
    unfold inW
    exact ZHl ih (ih k (by rw [Z2e]; omega))
def ZKe (r:RCP) (stage:Int) (l:List AM):List DV×Int :=
  if ZIc r ≠ 0 then ([], ZIc r) else if stage < 0 ∨ (r.2.length:Int)≤stage then ([], 1) else if (64:Int) < l.length then ([], 4) else
    match ZGb (ZLb (gS r.2 stage.toNat)) (fun out => .inr out) l ((gS r.2 stage.toNat).map d0) with
    | .inl e => e
    | .inr out => (inW (gS r.2 stage.toNat) out (gS r.2 stage.toNat).length, 0)
theorem ZDk {r:RCP} (h:ZIc r = 0) {i:Nat} (hi:i < r.2.length):(gS r.2 i).length≤16 := by
  unfold ZIc at h; by_cases h1:Zpd r.1 = false
  · rw [if_pos h1] at h; exact absurd h (by decide)
  rw [if_neg h1] at h; by_cases h2:r.2.length < 1 ∨ 6 < r.2.length
  · rw [if_pos h2] at h; exact absurd h (by decide)
  rw [if_neg h2] at h; have := ZAm _ _ h i hi; rw [Nat.zero_add] at this; unfold cS at this; by_cases h3:(gS r.2 i).length < 1 ∨ 16 < (gS r.2 i).length
  · rw [if_pos h3] at this; exact absurd this (by decide)
  · omega
theorem Zuk {E S R:Type} {f:E→S→R ⊕ S} {fin:S→R} (I:Nat→S→Prop) (J:R→Prop) (l:List E) (hf:∀ i s r, (hi:i < l.length)→I i s→f l[i] s = .inl r→J r)
    (hs:∀ i s s', (hi:i < l.length)→I i s→f l[i] s = .inr s'→I (i+1) s') (he:∀ s, I l.length s→J (fin s)) {s0:S} (h0:I 0 s0):J (ZGb f fin l s0) := by
  have key:∀ m i s, i+m = l.length→I i s→J (ZGb f fin (l.drop i) s) := by
    intro m
    induction m with
    | zero =>
      intro i s hi hI; obtain rfl:i = l.length := by omega
      rw [List.drop_length]; exact he s hI
    | succ m ih =>
      intro i s hi hI; have hi':i < l.length := by omega
      rw [List.drop_eq_getElem_cons hi']; unfold ZGb
      cases hx:f l[i] s with
      | inl r => exact hf i s r hi' hI hx
      | inr s' => exact ih (i+1) s' (by omega) (hs i s s' hi' hI hx)
  have := key l.length 0 s0 (by omega) h0
  rwa [List.drop_zero] at this
def Zzh {E S R R':Type} (φ:R→R') (f:E→S→R ⊕ S) (a:E) (s:S):R' ⊕ S := match f a s with | .inl r => .inl (φ r) | .inr s' => .inr s'
theorem ZOm {E S R R':Type} (φ:R→R') (f:E→S→R ⊕ S) (fin:S→R):∀ (l:List E) (s:S), ZGb (Zzh φ f) (fun out => φ (fin out)) l s = φ (ZGb f fin l s)
  | [], s => rfl
  | e :: l, s => by
    unfold ZGb Zzh
    cases f e s with
    | inl r => rfl
    | inr s' => exact ZOm φ f fin l s'
def phi:(List DV×Int) ⊕ List DV→(List DV×Int) ⊕ List DVo
  | .inl e => .inl e
  | .inr o => .inr (o.map oD)
section
variable {r:RCP} {stage:Int} {l:List AM} (h:SzRc r) (hl:∀ a ∈ l, sz 64 a.2) (hn:l.length≤70)
include h hl hn
theorem Znj {it:List IT} (hi:it.length≤16) (hz:∀ x ∈ it, x.1.length≤maxLen∧sz 64 x.2.1∧sz 64 x.2.2) :
    ∀ i s s', (h:i < l.length)→(s.length = it.length∧szD (65 * (i+1)) s)→ZLb it l[i] s = .inr s'→(s'.length = it.length∧szD (65 * (i+1+1)) s') := by
  intro i s s' hi' hI hs; unfold ZLb at hs; by_cases k1:ZZb it l[i].1 < 0
  · rw [if_pos k1] at hs; cases hs
  rw [if_neg k1] at hs; by_cases k2:l[i].2 < 0
  · rw [if_pos k2] at hs; cases hs
  rw [if_neg k2] at hs; obtain ⟨k, e, hk⟩ := Z6k k1
  cases hs
  refine ⟨by rw [List.length_set]; exact hI.1, ?_⟩; have hm:szD (65 * (i+1+1)) s := fun j hj => (hI.2 j hj).mono (by omega); refine ZHl hm ?_; rw [e, Int.toNat_natCast]; exact (sz_add (hI.2 k (by omega)) (hl _ (List.getElem_mem hi'))).mono (by omega)
theorem Zjq:ZGf r stage l = some (ZKe r stage l) := by
  unfold ZGf ZKe; rw [ZIo h, Zh]; by_cases c0:ZIc r ≠ 0
  · have:(ZIc r != 0) = true := by simpa using c0
    rw [this, ZM, if_pos c0]
  have:(ZIc r != 0) = false := by simpa using c0
  rw [this, ZI, if_neg c0, or2, Zh]; have c0 := Decidable.not_not.1 c0; by_cases c1:stage < 0 ∨ (r.2.length:Int)≤stage
  · rw [decide_eq_true c1, ZM, if_pos c1]
  rw [decide_eq_false c1, ZI, if_neg c1]; by_cases c2:(64:Int) < l.length
  · rw [decide_eq_true c2, ZM, if_pos c2]
  rw [decide_eq_false c2, ZI, if_neg c2]; obtain ⟨st, rfl⟩:∃ n:Nat, stage = n := ⟨stage.toNat, by omega⟩; have hst:st < r.2.length := by omega
  have hlen := ZDk c0 hst; have hit := h.it r.2[st] (List.getElem_mem hst); rw [Z5 hst, Zh, Int.toNat_natCast]; unfold gS at *; rw [ZOb hst] at hlen ⊢; generalize r.2[st] = it at hlen hit; refine Zab (y := it.map d0) (Zab (Z4e (fun k => ((it.take k).map d0, (k:Int))) it.length rfl (by omega) (fun k hk => ?_) ?_) rfl) ?_
  · have e := takeM d0 it hk; have hq:((it.take k).map d0).length = k := by simp; omega
    simp only; rw [decide_eq_true (by omega), ZM, Z5 hk, Zh]; unfold ZGe; rw [Zh, show Z3a 80 ((it.take k).map d0 ++ [(it[k].1, -it[k].2.1, false)]) = some () by unfold Z3a; rw [if_pos (by rw [List.length_append, hq, List.length_singleton]; omega)], Zh, Zsa (by omega) (by omega), Zh, e]; rfl
  · simp only; rw [decide_eq_false (by omega), ZI, List.take_length]
  simp only; have z0:szD 65 (it.map d0) := fun j hj => by
    rw [List.length_map] at hj; unfold gD'; rw [ZOb (by simpa using hj)]; simp only [List.getElem_map, d0]; exact (Zoi (hit _ (List.getElem_mem hj)).2.1).mono (by omega)
  refine Zab (y := match ZGb (ZLb it) (fun out => (.inr out:(List DV×Int) ⊕ List DV)) l (it.map d0) with | .inl e => .inr e | .inr o => .inl o) (Zab (Zbk l (fun s i => (s, (i:Int))) (ZLb it) (fun out => (.inr out:(List DV×Int) ⊕ List DV)) (fun i s => s.length = it.length∧szD (65 * (i+1)) s) rfl ⟨by simp, z0⟩ (by omega) (fun i s hi hI => ?_) (Znj h hl hn hlen hit) (fun s hI => ?_)) ?_) ?_
  · simp only; rw [decide_eq_true (by omega), ZM, Z5 hi, Zh, ZWq _ _ (by omega), Zh]; unfold ZLb; by_cases k1:ZZb it l[i].1 < 0
    · rw [decide_eq_true k1, ZM, if_pos k1]
    rw [decide_eq_false k1, ZI, if_neg k1, sg, Zh, ZMf]; by_cases k2:l[i].2 < 0
    · rw [decide_eq_true k2, ZM, if_pos k2]
    rw [decide_eq_false k2, ZI, if_neg k2]; obtain ⟨k, e, hk⟩ := Z6k k1; have hk':k < s.length := by omega
    have z := hI.2 k hk'; unfold gD' at *; rw [ZOb hk'] at z; rw [e, Int.toNat_natCast, Z5 hk', Zh, qadd_ok z (hl _ (List.getElem_mem hi)) (by omega), Zh, Zh, Zsa (by omega) (by omega), Zh, ZOb hk']; rfl
  · simp only; rw [decide_eq_false (by omega), ZI]
  · cases ZGb (ZLb it) (fun out => (.inr out:(List DV×Int) ⊕ List DV)) l (it.map d0) <;> rfl
  have hJ := Zuk (f := ZLb it) (fin := fun out => (.inr out:(List DV×Int) ⊕ List DV)) (fun i s => s.length = it.length∧szD (65 * (i+1)) s) (fun x => ∀ o, x = .inr o→o.length = it.length∧szD 5000 o) l
    (fun i s x hi hI hx o ho => by
      subst ho; unfold ZLb at hx; split at hx
      · cases hx
      · split at hx <;> cases hx) (Znj h hl hn hlen hit) (fun s hI o ho => by cases ho; exact ⟨hI.1, fun j hj => (hI.2 j hj).mono (by omega)⟩) (s0 := it.map d0) ⟨by simp, z0⟩
  cases hR:ZGb (ZLb it) (fun out => (.inr out:(List DV×Int) ⊕ List DV)) l (it.map d0) with
  | inl e => rfl
  | inr o =>
  obtain ⟨ol, oz⟩ := hJ o hR; simp only; refine Zab (Zab (Z4e (fun k => (inW it o k, (k:Int))) it.length rfl (by omega) (fun k hk => ?_) ?_) rfl) rfl
  · have hk':k < (inW it o k).length := by rw [Z2e]; omega
    have z := Zyj (it := it) oz k (by omega) k hk'; have e1:inW it o (k+1) = (inW it o k).set k ((gD' (inW it o k) k).1, (gD' (inW it o k) k).2.1, decide (abQ (gD' (inW it o k) k).2.1≤(gI it k).2.2)) := rfl; simp only; rw [e1]; unfold gD' gI at *; rw [ZOb hk'] at z ⊢; rw [ZOb hk, decide_eq_true (by omega), ZM, Z5 hk, Zh, Z5 hk', Zh, size_eq z (by omega), Zh, Zml (Zzn z) (hit _ (List.getElem_mem hk)).2.2 (by omega), Zh, Zh, Zsa (by omega) (by omega), Zh, le_d, Int.toNat_natCast]; rfl
  · simp only; rw [decide_eq_false (by omega), ZI]
theorem Zyr:Zyf r stage l = some (ZKe r stage l) := by
  unfold Zyf ZKe; rw [Ztp h, Zh]; by_cases c0:ZIc r ≠ 0
  · have:(ZIc r != 0) = true := by simpa using c0
    rw [this, ZM, if_pos c0]
  have:(ZIc r != 0) = false := by simpa using c0
  rw [this, ZI, if_neg c0, or2, Zh]; have c0 := Decidable.not_not.1 c0; by_cases c1:stage < 0 ∨ (r.2.length:Int)≤stage
  · rw [decide_eq_true c1, ZM, if_pos c1]
  rw [decide_eq_false c1, ZI, if_neg c1]; by_cases c2:(64:Int) < l.length
  · rw [decide_eq_true c2, ZM, if_pos c2]
  rw [decide_eq_false c2, ZI, if_neg c2]; obtain ⟨st, rfl⟩:∃ n:Nat, stage = n := ⟨stage.toNat, by omega⟩; have hst:st < r.2.length := by omega
  have hlen := ZDk c0 hst; have hit := h.it r.2[st] (List.getElem_mem hst); rw [Z5 hst, Zh]; simp only [Int.toNat_natCast]; unfold gS at *; rw [ZOb hst] at hlen ⊢; generalize r.2[st] = it at hlen hit; rw [show mk 80 (it.length:Int) (it.length:Int) = some () by unfold mk; rw [if_pos ⟨by omega, by omega, by omega, by omega⟩], Zh]; refine Zab (y := (it.map d0).map oD) (Zab (Z4e (fun k => (Z0a (fun x => oD (d0 x)) ([], none, false) it k, (k:Int))) it.length ?_ (by omega) (fun k hk => ?_) ?_) rfl) ?_
  · unfold Z0a; simp
  · have e := ZUh (fun x => oD (d0 x)) ([], none, false) it hk; have hq := Z1h (fun x => oD (d0 x)) ([], none, false) it (k := k) (by omega); have z := hit _ (List.getElem_mem hk); simp only; rw [decide_eq_true (by omega), ZM, Z5 hk]; simp only [Zh]; rw [show Zwd it[k].2.1 = some (-it[k].2.1) by unfold Zwd; rw [if_pos (z.2.1.ok (by omega))], Zh, Z5 (by omega), Zh, Zsa (by omega) (by omega), Zh, Int.toNat_natCast, ← e]; rfl
  · simp only; rw [decide_eq_false (by omega), ZI, Zzi, List.map_map]; rfl
  skip
  have z0:szD 65 (it.map d0) := fun j hj => by
    rw [List.length_map] at hj; unfold gD'; rw [ZOb (by simpa using hj)]; simp only [List.getElem_map, d0]; exact (Zoi (hit _ (List.getElem_mem hj)).2.1).mono (by omega)
  have hlz := Znj h hl hn hlen hit; have hJ := Zuk (f := ZLb it) (fin := fun out => (.inr out:(List DV×Int) ⊕ List DV)) (fun i s => s.length = it.length∧szD (65 * (i+1)) s) (fun x => ∀ o, x = .inr o→o.length = it.length∧szD 5000 o) l
    (fun i s x hi hI hx o ho => by
      subst ho; unfold ZLb at hx; split at hx
      · cases hx
      · split at hx <;> cases hx) hlz (fun s hI o ho => by cases ho; exact ⟨hI.1, fun j hj => (hI.2 j hj).mono (by omega)⟩) (s0 := it.map d0) ⟨by simp, z0⟩
  refine Zab (y := match ZGb (ZLb it) (fun out => (.inr out:(List DV×Int) ⊕ List DV)) l (it.map d0) with | .inl e => .inr e | .inr o => .inl (o.map oD))
    (Zab ((Zbk l (fun s i => (s.map oD, (i:Int))) (Zzh phi (ZLb it)) (fun out => phi ((fun out => (.inr out:(List DV×Int) ⊕ List DV)) out)) (fun i s => s.length = it.length∧szD (65 * (i+1)) s) rfl ⟨by simp, z0⟩ (by omega) (fun i s hi hI => ?_) (fun i s s' hi hI hs => ?_) (fun s hI => ?_)).trans (congrArg some (ZOm phi (ZLb it) (fun out => (.inr out:(List DV×Int) ⊕ List DV)) l (it.map d0)))) ?_) ?_
  · simp only; rw [decide_eq_true (by omega), ZM, Z5 hi]; simp only [Zh]; rw [ZFn _ _ (by omega), Zh]; unfold Zzh ZLb; by_cases k1:ZZb it l[i].1 < 0
    · rw [decide_eq_true k1, ZM, if_pos k1]; rfl
    rw [decide_eq_false k1, ZI, if_neg k1, rsg, Zh, ZMf]; by_cases k2:l[i].2 < 0
    · rw [decide_eq_true k2, ZM, if_pos k2]; rfl
    rw [decide_eq_false k2, ZI, if_neg k2]; obtain ⟨k, e, hk⟩ := Z6k k1; have hk':k < s.length := by omega
    have z := hI.2 k hk'; unfold gD' at *; rw [ZOb hk'] at z; have hkm:k < (s.map oD).length := by rw [List.length_map]; exact hk'
    rw [e, Int.toNat_natCast, Z5 hkm]; simp only [Zh, List.getElem_map]; rw [show coQ (oD s[k]).2.1 = some s[k].2.1 from rfl, Zh, radd_ok z (hl _ (List.getElem_mem hi)) (by omega), Zh, Zsa (by omega) (by omega), Zh, ZOb hk', List.map_set]; rfl
  · refine hlz i s s' hi hI ?_; unfold Zzh at hs
    cases hx:ZLb it l[i] s with
    | inl r => rw [hx] at hs; cases hs
    | inr q => rw [hx] at hs; cases hs; rfl
  · simp only; rw [decide_eq_false (by omega), ZI]; rfl
  · cases ZGb (ZLb it) (fun out => (.inr out:(List DV×Int) ⊕ List DV)) l (it.map d0) <;> rfl
  cases hR:ZGb (ZLb it) (fun out => (.inr out:(List DV×Int) ⊕ List DV)) l (it.map d0) with
  | inl e => rfl
  | inr o =>
  obtain ⟨ol, oz⟩ := hJ o hR; simp only; refine Zab (y := (inW it o it.length).map oD) (Zab (Z4e (fun k => ((inW it o k).map oD, (k:Int))) it.length rfl (by omega) (fun k hk => ?_) ?_) rfl) ?_
  · have hk':k < (inW it o k).length := by rw [Z2e]; omega
    have hkm:k < ((inW it o k).map oD).length := by rw [List.length_map]; exact hk'
    have hle:(((inW it o k).map oD).length:Int) = it.length := by rw [List.length_map, Z2e, ol]
    have z := Zyj (it := it) oz k (by omega) k hk'; have e1:inW it o (k+1) = (inW it o k).set k ((gD' (inW it o k) k).1, (gD' (inW it o k) k).2.1, decide (abQ (gD' (inW it o k) k).2.1≤(gI it k).2.2)) := rfl; simp only; rw [e1, hle]; unfold gD' gI at *; rw [ZOb hk'] at z ⊢; rw [ZOb hk, decide_eq_true (by omega), ZM, Z5 hkm]; simp only [Zh, List.getElem_map]; rw [show coQ (oD (inW it o k)[k]).2.1 = some (inW it o k)[k].2.1 from rfl, Zh, Zxp z (by omega), Zh, Z5 hk, Zh, Zzl (Zzn z) (hit _ (List.getElem_mem hk)).2.2 (by omega), Zh, Zsa (by omega) (by omega), Zh, le_d, Int.toNat_natCast, List.map_set]; rfl
  · have hle:(((inW it o it.length).map oD).length:Int) = it.length := by rw [List.length_map, Z2e, ol]
    simp only; rw [hle, decide_eq_false (by omega), ZI]
  · have := ZMj (coP coI (coP coQ coI)) oD (fun x => x) (fun x => rfl) (inW it o it.length); rw [this, Zh, List.map_id']
end
noncomputable def ZLk (p:(Rat×Rat)) (t:Rat):Option (Bool) :=
 bnd (Znd p.2 t) fun a =>
 some (decide ((0:Int)≤a))
noncomputable def Z4k (l:(List (Rat×Rat))) (g:Rat):Option (Int) :=
 bnd (bnd (ZZ (fun s:Int=>match s with
 | a =>
 (ifb (decide (a < (l.length:Int)))
 (bnd (idx l a) fun b =>
 bnd (ZLk ((b.1,b.2)) g) fun c =>
 ifb (c)
 (some (.inr ((.inl a))))
 (bnd (chk .i64 (a+((1:Int)))) fun d =>
 some (.inl d)))
 (some (.inr ((.inr (()))))))) Zda ((0:Int)))
 (fun (p:(Int) ⊕ (Unit))=>match p with
 | .inl e =>
 (some ((.inr e)))
 | .inr (()) =>
 (some ((.inl (()))))))
 (fun (p:(Unit) ⊕ (Int))=>match p with
 | .inl (()) =>
 (some ((-1:Int)))
 | .inr f =>
 (some f))
noncomputable def ZRk (p:(Rat×Rat)) (q:(Rat×Rat)):Option (Rat) :=
 bnd (bnd (Zqe q.2 p.2) fun a =>
 bnd (Zqe q.1 p.1) fun b =>
 bnd (Z5e a b) fun c =>
 some c.1)
 (fun (d:Rat) =>
 (some d))
noncomputable def Zqk (l:(List (Rat×Rat))) (t:Rat):Option (Rat×Int) :=
 bnd (Z4k l t) fun a =>
 ifb (decide (a < (0:Int)))
 (some (((0:Rat),(5:Int))))
 (ifb (a == ((0:Int)))
 (bnd (idx l ((0:Int))) fun d =>
 some ((d.1,(0:Int))))
 (bnd (chk .i64 (a - ((1:Int)))) fun e =>
 bnd (idx l e) fun b =>
 bnd (bnd (Zqe t b.2) fun f =>
 bnd (idx l a) fun c =>
 bnd (ZRk ((b.1,b.2)) ((c.1,c.2))) fun g =>
 bnd (Z5e f g) fun h =>
 some h.1)
 (fun (i:Rat) =>
 (bnd (Z7c b.1 i) fun j =>
 some ((j,(0:Int)))))))
noncomputable def ZFj (fv:Nat):Option (Nat) :=
 some ((ZSc .u64 ((fv:Int)) ((9223372036854775808:Int))).toNat)
noncomputable def ZSi (x:Nat):Option (Nat×Int) :=
 bnd (ZFj x) fun a =>
 ifb (fLt .f64 a ((4503599627370496:Nat)))
 (bnd (fMul .f64 x ((4841369599423283200:Nat))) fun b =>
 some ((b,(-52:Int))))
 (some ((x,(0:Int))))
noncomputable def Zqf (fv:Nat) (sign:Int):Option (Bool) :=
 bnd (ifb (sign == ((0:Int)))
 (bnd (ZFj fv) fun a =>
 some a)
 (bnd (ifb (decide (sign < (0:Int)))
 (bnd (fNeg .f64 fv) fun b =>
 some b)
 (some fv))
 (fun (c:Nat) =>
 (some c))))
 (fun (d:Nat) =>
 (some (fGt .f64 d ((9218868437227405311:Nat)))))
noncomputable def ZVe (fv:Nat):Option (Bool) :=
 some (fNe .f64 fv fv)
noncomputable def Z1k (fv:Nat):Option (Nat×Int) :=
 ifb (fEq .f64 fv ((0:Nat)))
 (some ((fv,(0:Int))))
 (bnd (bnd (Zqf fv ((0:Int))) fun b =>
 ifb (b)
 (some true)
 (bnd (ZVe fv) fun c =>
 some c))
 (fun (d:Bool) =>
 (ifb (d)
 (some ((fv,(0:Int))))
 (bnd (ZSi fv) fun a =>
 bnd (ZNa .u64 ((a.1:Int)) ((52:Int))) fun e =>
 bnd (chk .i64 ((IntKind.i64.wrap (ZZa .u64 e ((2047:Int)))) - ((1023:Int)))) fun f =>
 bnd (chk .i64 (f+((1:Int)))) fun g =>
 bnd (chk .i64 (a.2+g)) fun h =>
 some (((orI .u64 (ZSc .u64 ((a.1:Int)) ((9218868437227405312:Int))) ((4602678819172646912:Int))).toNat,h))))))
noncomputable def Zgk (fv:Nat):Option (Nat×Int) :=
 bnd (Z1k fv) fun a =>
 some ((a.1,a.2))
noncomputable def Zik (fv:Nat) (sign:Nat):Option (Nat) :=
 some ((orI .u64 (ZSc .u64 ((fv:Int)) ((9223372036854775808:Int))) (ZZa .u64 ((sign:Int)) ((9223372036854775808:Int)))).toNat)
noncomputable def ZAj (sign:Int):Option (Nat) :=
 bnd (ifb (decide ((0:Int)≤sign))
 (some ((9218868437227405312:Int)))
 (some ((18442240474082181120:Int))))
 (fun (a:Int) =>
 (some a.toNat))
noncomputable def Z9k (frac:Nat) (ex:Int):Option (Nat) :=
 ifb (fEq .f64 frac ((0:Nat)))
 (some frac)
 (bnd (bnd (Zqf frac ((0:Int))) fun c =>
 ifb (c)
 (some true)
 (bnd (ZVe frac) fun d =>
 some d))
 (fun (e:Bool) =>
 (ifb (e)
 (some frac)
 (bnd (ZSi frac) fun a =>
 bnd (chk .i64 (ex+a.2)) fun f =>
 bnd (ZNa .u64 ((a.1:Int)) ((52:Int))) fun g =>
 bnd (chk .i64 ((ZZa .i64 (IntKind.i64.wrap g) ((2047:Int))) - ((1023:Int)))) fun h =>
 bnd (chk .i64 (f+h)) fun b =>
 ifb (decide (b < (-1075:Int)))
 (bnd (Zik ((0:Nat)) a.1) fun i =>
 some i)
 (ifb (decide ((1023:Int) < b))
 (ifb (fLt .f64 a.1 ((0:Nat)))
 (bnd (ZAj ((-1:Int))) fun j =>
 some j)
 (bnd (ZAj ((1:Int))) fun k =>
 some k))
 (bnd (ifb (decide (b < (-1022:Int)))
 (bnd (chk .i64 (b+((53:Int)))) fun l =>
 some ((l,(4368491638549381120:Nat))))
 (some ((b,(4607182418800017408:Nat)))))
 (fun (p:Int×Nat)=>match p with
 | (m,n) =>
 (bnd (chk .i64 (m+((1023:Int)))) fun o =>
 bnd (ZXb .u64 (IntKind.u64.wrap o) ((52:Int))) fun q =>
 bnd (fMul .f64 n ((orI .u64 (ZSc .u64 ((a.1:Int)) ((9218868437227405312:Int))) q).toNat)) fun r =>
 some r))))))))
noncomputable def Ztk (frac:Nat) (ex:Int):Option (Nat) :=
 bnd (Z9k frac ex) fun a =>
 some a
noncomputable def Zbe (fv:Nat):Option (Rat×Int) :=
 bnd (bnd (ZVe fv) fun d =>
 ifb (d)
 (some true)
 (bnd (Zqf fv ((0:Int))) fun e =>
 some e))
 (fun (f:Bool) =>
 (ifb (f)
 (some (((0:Rat),(1:Int))))
 (bnd (Zgk fv) fun c =>
 bnd (Ztk c.1 ((53:Int))) fun g =>
 bnd (Zxh .f64 .i64 g) fun h =>
 bnd (ofF h) fun a =>
 bnd (chk .i64 (c.2 - ((53:Int)))) fun b =>
 ifb (decide ((0:Int)≤b))
 (bnd (Zsd a.natAbs b) fun i =>
 bnd (Z1b (decide (a < 0)) i) fun j =>
 bnd (ZNe j ((0:Nat))) fun k =>
 some ((k,(0:Int))))
 (bnd (Z0c ((1:Int))) fun l =>
 bnd (Zsd l (IntKind.i64.wrap (-b))) fun m =>
 bnd (Zgd a m) fun n =>
 some ((n,(0:Int)))))))
section
variable {P:Program} {K:Nat} {w0:Base} {v0:Zc} {σ:List (Nat×Value)} {ℓ:List Loc} {v:Zc} {a:Act} {w:World} {ops:Array Oper} {Q:Exit→Act→World→Prop} {rest:List Oper}
def Zgf (r:Nat):Prop := r < 18446744073709551616∧9218868437227405312 < r % 9223372036854775808
theorem Zwq {s t:TypeId} {k0:FloatKind} {b f:Nat} {g:Bool} (hs:P.underlying s = some (.float k0)) (ht:P.underlying t = some (.float .f64)) (h:FloatKind.f32.decode b = .nan g f) (w:World) :
    ∃ r, Zgf r∧(convert s t (.float .f32 b)).run P w = .ok (.float .f64 r) w.drew := by
  refine ⟨(Question.nanConv .f64 b).cut (w.tape w.drawn (Question.nanConv .f64 b)), ?_, ?_⟩
  · generalize w.tape w.drawn (Question.nanConv .f64 b) = n; show Zgf ((n % 2) * 2 ^ 63+0x7ff0000000000000+1+(n / 2) % (2 ^ 52 - 1)); have e1:(2:Nat) ^ 63 = 9223372036854775808 := by decide
    have e2:(2:Nat) ^ 52 = 4503599627370496 := by decide
    rw [e1, e2]; unfold Zgf; have h1 := Nat.mod_lt (n / 2) (show 0 < 4503599627370496 - 1 by decide); have h2 := Nat.mod_lt n (show 0 < 2 by decide); generalize n / 2 % (4503599627370496 - 1) = x at *; generalize n % 2 = y at *; rcases (show y = 0 ∨ y = 1 by omega) with rfl | rfl
    · refine ⟨by omega, by omega⟩
    · refine ⟨by omega, by omega⟩
  · simp [convert, run_underlying hs, run_underlying ht, Conv.floatToFloat, h, choose, Sem.run, Question.forced]
theorem Zip {s t:TypeId} {k0:FloatKind} {b:Nat} {g:Bool} (hs:P.underlying s = some (.float k0)) (ht:P.underlying t = some (.float .f64)) (h:FloatKind.f32.decode b = .infinity g) (w:World) :
    (convert s t (.float .f32 b)).run P w = .ok (.float .f64 (FloatKind.f64.encode (.infinity g))) w := by
  simp [convert, run_underlying hs, run_underlying ht, Conv.floatToFloat, h]
theorem ZIn (hS:St K w0 v0 σ ℓ v a w) {s t ty:TypeId} {d:Option Nat} {pos:String} {aft:Array Edge} {g:Option (Nat×Bool)} {x:Operand} {y z:Value} {w':World} (e:ev σ x = some y) (h:(convert s t y).run P w = .ok z w') :
    (execOp a.eval ⟨d, .convert s t x, ty, pos, aft, g⟩).run P w = .ok (.value z) w' := by
  simp [execOp, hS.eval e, h]
theorem ovd {o:Oper} {d:Nat} {x:Value} (hS:St K w0 v0 σ ℓ v a w) (hc:(o.dst, o.guard, Nat.ble (d+1) K) = (some d, none, true)) (hrun:(execOp a.eval o).run P w = .ok (.value x) w.drew)
    (h:∀ a, St K w0 v0 ((d, x) :: σ) ℓ v a w.drew→wpList P ops Q rest a w.drew):wpList P ops Q (o :: rest) a w :=
  ZUd (Zoc (Prod.mk.inj (Prod.mk.inj hc).2).1) (Zje hrun (by
    rw [(Prod.mk.inj hc).1]
    exact h _ (hS.drew.put x (Nat.le_of_ble_eq_true (Prod.mk.inj (Prod.mk.inj hc).2).2))))
end
abbrev canon64:Nat := 9221120237041090560
def Zwi (b:Nat):Option Nat := match FloatKind.f32.decode b with
  | .number _ _ _ => Ztg .f32 .f64 b
  | _ => some canon64
def as64 (y r:Nat):Prop := r = y ∨ (y = canon64∧(Zgf r ∨ ∃ g, r = FloatKind.f64.encode (.infinity g)))
section
variable {P:Program} {K:Nat} {w0:Base} {v0:Zc} {σ:List (Nat×Value)} {ℓ:List Loc} {v:Zc} {a:Act} {w:World} {ops:Array Oper} {Q:Exit→Act→World→Prop} {rest:List Oper}
theorem convN {s t:TypeId} {k0:FloatKind} {b y:Nat} (hs:P.underlying s = some (.float k0)) (ht:P.underlying t = some (.float .f64)) (h:Zwi b = some y) (w:World) :
    ∃ r, as64 y r∧r < 18446744073709551616∧((convert s t (.float .f32 b)).run P w = .ok (.float .f64 r) w ∨ (convert s t (.float .f32 b)).run P w = .ok (.float .f64 r) w.drew) := by
  unfold Zwi at h
  cases hd:FloatKind.f32.decode b with
  | number sg m e =>
    rw [hd] at h; exact ⟨y, .inl rfl, Zlq h, .inl (conv_ff hs ht h w)⟩
  | infinity g =>
    rw [hd] at h; refine ⟨_, .inr ⟨(Option.some.inj h).symm, .inr ⟨g, rfl⟩⟩, ?_, .inl (Zip hs ht hd w)⟩
    cases g <;> decide
  | nan g f =>
    rw [hd] at h; obtain ⟨r, h1, h2⟩ := Zwq hs ht hd w; exact ⟨r, .inr ⟨(Option.some.inj h).symm, .inl h1⟩, h1.1, .inr h2⟩
theorem ovn {s t ty:TypeId} {k0:FloatKind} {d:Nat} {pos:String} {aft:Array Edge} {x:Operand} {b y:Nat} (hS:St K w0 v0 σ ℓ v a w) (hc:(ev σ x, Nat.ble (d+1) K) = (some (.float .f32 b), true))
    (hs:P.underlying s = some (.float k0)) (ht:P.underlying t = some (.float .f64)) (hy:Zwi b = some y)
    (h:∀ r, as64 y r→r < 18446744073709551616→∀ a w', St K w0 v0 ((d, .float .f64 r) :: σ) ℓ v a w'→wpList P ops Q rest a w'):wpList P ops Q (⟨some d, .convert s t x, ty, pos, aft, none⟩ :: rest) a w := by
  have e := (Prod.mk.inj hc).1; have k := (Prod.mk.inj hc).2; obtain ⟨r, h1, h2, hrun⟩ := convN hs ht hy w; rcases hrun with hr | hr
  · exact ov hS (by rw [k]) (ZIn hS e hr) fun a hS => h r h1 h2 a _ hS
  · exact ovd hS (by rw [k]) (ZIn hS e hr) fun a hS => h r h1 h2 a _ hS
end
noncomputable def Zmj (fv:Nat):Option (Rat×Int) :=
 bnd (Zwi fv) fun b =>
 bnd (Zbe b) fun a =>
 some ((a.1,a.2))
noncomputable def ZTk (l:(List (Nat×Nat))):Option ((List (Rat×Rat))×Int) :=
 bnd (ifb (decide ((l.length:Int) < (2:Int)))
 (some true)
 (some (decide ((1000:Int) < (l.length:Int)))))
 (fun (h:Bool) =>
 (ifb (h)
 (some ((([]:(List (Rat×Rat))),(4:Int))))
 (bnd (bnd (ZZ (fun s:(List (Rat×Rat))×Int×Int=>match s with
 | (c,a,e) =>
 (ifb (decide (a < (l.length:Int)))
 (bnd (idx l a) fun f =>
 bnd (Zmj f.1) fun b =>
 bnd (Zmj f.2) fun d =>
 bnd (ifb (b.2 != ((0:Int)))
 (some true)
 (ifb (d.2 != ((0:Int)))
 (some true)
 (bnd (ZHc b.1) fun i =>
 some (decide (i < (0:Int))))))
 (fun (j:Bool) =>
 (ifb (j)
 (some (.inr ((.inl ((([]:(List (Rat×Rat))),(1:Int)))))))
 (bnd (ifb (decide ((0:Int) < a))
 (bnd (chk .i64 (a - ((1:Int)))) fun k =>
 bnd (idx c k) fun m =>
 bnd (Znd b.1 m.1) fun n =>
 some (decide (n≤(0:Int))))
 (some false))
 (fun (o:Bool) =>
 (ifb (o)
 (some (.inr ((.inl ((([]:(List (Rat×Rat))),(7:Int)))))))
 (bnd (Z3a 112 (c ++ [(b.1,d.1)])) fun D =>
 bnd (idx ((c ++ [(b.1,d.1)])) e) fun q =>
 bnd (Znd d.1 q.2) fun r =>
 bnd (ifb (decide (r < (0:Int)))
 (some a)
 (some e))
 (fun (t:Int) =>
 (bnd (chk .i64 (a+((1:Int)))) fun u =>
 some (.inl (((c ++ [(b.1,d.1)]),u,t))))))))))))
 (some (.inr ((.inr ((c,e)))))))) Zda ((([]:(List (Rat×Rat))),(0:Int),(0:Int))))
 (fun (p:((List (Rat×Rat))×Int) ⊕ ((List (Rat×Rat))×Int))=>match p with
 | .inl ((v,w)) =>
 (some ((.inr ((v,w)))))
 | .inr ((x,y)) =>
 (some ((.inl ((x,y)))))))
 (fun (p:((List (Rat×Rat))×Int) ⊕ ((List (Rat×Rat))×Int))=>match p with
 | .inl ((g,z)) =>
 (bnd (Zob g z ((g.length:Int))) fun A =>
 some ((A,(0:Int))))
 | .inr ((B,C)) =>
 (some ((B,C)))))))
noncomputable def ZOj (l:(List (Nat×Nat))) (t:Rat):Option (Rat×Int) :=
 bnd (ZTk l) fun a =>
 ifb (a.2 != ((0:Int)))
 (some (((0:Rat),a.2)))
 (bnd (Zqk a.1 t) fun b =>
 some ((b.1,b.2)))
noncomputable def Zlk (r:(Rat×(List (Rat×Rat)))):Option (Int) :=
 ifb (decide ((10:Int) < (r.2.length:Int)))
 (some ((4:Int)))
 (bnd (ZHc r.1) fun c =>
 ifb (decide (c < (0:Int)))
 (some ((1:Int)))
 (bnd (bnd (ZZ (fun s:Int=>match s with
 | a =>
 (ifb (decide (a < (r.2.length:Int)))
 (bnd (idx r.2 a) fun b =>
 bnd (bnd (ZHc b.1) fun d =>
 ifb (decide (d < (0:Int)))
 (some true)
 (bnd (ZHc b.2) fun e =>
 some (decide (e≤(0:Int)))))
 (fun (f:Bool) =>
 (ifb (f)
 (some (.inr ((.inl ((1:Int))))))
 (bnd (ifb (decide ((0:Int) < a))
 (bnd (chk .i64 (a - ((1:Int)))) fun g =>
 bnd (idx r.2 g) fun h =>
 bnd (Znd b.2 h.2) fun i =>
 some (decide (i≤(0:Int))))
 (some false))
 (fun (j:Bool) =>
 (ifb (j)
 (some (.inr ((.inl ((7:Int))))))
 (bnd (chk .i64 (a+((1:Int)))) fun k =>
 some (.inl k))))))))
 (some (.inr ((.inr (()))))))) Zda ((0:Int)))
 (fun (p:(Int) ⊕ (Unit))=>match p with
 | .inl l =>
 (some ((.inr l)))
 | .inr (()) =>
 (some ((.inl (()))))))
 (fun (p:(Unit) ⊕ (Int))=>match p with
 | .inl (()) =>
 (some ((0:Int)))
 | .inr m =>
 (some m))))
noncomputable def ZSj (t:Rat) (fw:Rat):Option (Rat×Rat) :=
 bnd (Z7e fw t) fun a =>
 bnd (Z7e a a) fun b =>
 bnd (bnd (Ztd ((1:Int))) fun d =>
 bnd (Z7c b d) fun e =>
 some e)
 (fun (c:Rat) =>
 (bnd (Z5e b c) fun f =>
 bnd (Z5e a c) fun g =>
 some ((f.1,g.1))))
noncomputable def ZKk (r:(Rat×(List (Rat×Rat)))) (fw:Rat):Option (Rat×Rat) :=
 bnd (bnd (ZZ (fun s:Rat×Rat×Int=>match s with
 | (c,d,a) =>
 (ifb (decide (a < (r.2.length:Int)))
 (bnd (idx r.2 a) fun b =>
 bnd (ZSj b.2 fw) fun e =>
 bnd (Z7e e.1 b.1) fun f =>
 bnd (Z7c c f) fun g =>
 bnd (Z7e e.2 b.1) fun h =>
 bnd (Z7c d h) fun i =>
 bnd (chk .i64 (a+((1:Int)))) fun j =>
 some (.inl ((g,i,j))))
 (some (.inr ((c,d)))))) Zda ((r.1,(0:Rat),(0:Int))))
 (fun (p:Rat×Rat)=>match p with
 | (k,l) =>
 (some ((k,l)))))
 (fun (p:Rat×Rat)=>match p with
 | (m,n) =>
 (some ((m,n))))
noncomputable def Z4j (r:(Rat×(List (Rat×Rat)))) (fw:Rat):Option (Rat×Rat×Int) :=
 bnd (Zlk ((r.1,r.2))) fun a =>
 ifb (a != ((0:Int)))
 (some (((0:Rat),(0:Rat),a)))
 (bnd (ZHc fw) fun c =>
 ifb (decide (c < (0:Int)))
 (some (((0:Rat),(0:Rat),(1:Int))))
 (bnd (ZKk ((r.1,r.2)) fw) fun b =>
 some ((b.1,b.2,(0:Int)))))
noncomputable def ZQf  : Option (Bool) :=
 bnd (Ztd ((1:Int))) fun c =>
 bnd (Ztd ((2:Int))) fun d =>
 bnd (Ztd ((1:Int))) fun e =>
 bnd (Ztd ((1:Int))) fun f =>
 bnd (Z4j ((c,[(d,e)])) f) fun a =>
 bnd (Ztd ((4:Int))) fun g =>
 bnd (ZOj ([((0:Nat),(1084227584:Nat)),((1092616192:Nat),(1073741824:Nat)),((1101004800:Nat),(1073741824:Nat)),((1106247680:Nat),(1092616192:Nat))]) g) fun b =>
 bnd (ifb (a.2.2 == ((0:Int)))
 (ifb (b.2 == ((0:Int)))
 (bnd (ZQd a.1) fun h =>
 ifb (h == (([50]:List UInt8)))
 (bnd (ZQd a.2.1) fun i =>
 ifb (i == (([49]:List UInt8)))
 (bnd (ZQd b.1) fun j =>
 some (j == (([52,53,47,50]:List UInt8))))
 (some false))
 (some false))
 (some false))
 (some false))
 (fun (k:Bool) =>
 (some k))
set_option maxRecDepth 100000 in
theorem Z7k:ZQf = some true := by
  unfold ZQf; rw [Zvr]; decide +kernel
noncomputable def ZUe (r:((List UInt8)×(List (List ((List UInt8)×(Int×Int)×(Int×Int)))))):Option (((List UInt8)×(List (List ((List UInt8)×Rat×Rat))))×((List UInt8)×(List (List ((List UInt8)×Rat×Rat))))×Bool) :=
 bnd (some (((r.1,([]:(List (List ((List UInt8)×Rat×Rat))))),(r.1,([]:(List (List ((List UInt8)×Rat×Rat))))))))
 (fun (p:((List UInt8)×(List (List ((List UInt8)×Rat×Rat))))×((List UInt8)×(List (List ((List UInt8)×Rat×Rat)))))=>match p with
 | (c,d) =>
 (ifb (decide ((8:Int) < (r.2.length:Int)))
 (some (((c.1,c.2),(d.1,d.2),false)))
 (bnd (mk 24 ((r.2.length:Int)) ((r.2.length:Int))) fun J =>
 bnd (mk 24 ((r.2.length:Int)) ((r.2.length:Int))) fun K =>
 bnd (bnd (ZZ (fun s:(List (List ((List UInt8)×Rat×Rat)))×(List (List ((List UInt8)×Rat×Rat)))×Int=>match s with
 | (g,h,b) =>
 (ifb (decide (b < (r.2.length:Int)))
 (bnd (idx r.2 b) fun i =>
 ifb (decide ((20:Int) < (i.length:Int)))
 (some (.inr ((.inl (((c.1,h),(d.1,g),false))))))
 (bnd (bnd (ZZ (fun s:(List (List ((List UInt8)×Rat×Rat)))×(List (List ((List UInt8)×Rat×Rat)))×Int=>match s with
 | (e,f,j) =>
 (ifb (decide (j < (i.length:Int)))
 (bnd (idx i j) fun a =>
 bnd (idx f b) fun k =>
 bnd (Z3a 128 (([]:(List ((List UInt8)×Rat×Rat))) ++ k)) fun L =>
 bnd (ZJe ((a.2.1.1,a.2.1.2))) fun m =>
 bnd (ZJe ((a.2.2.1,a.2.2.2))) fun n =>
 bnd (Z3a 128 ((([]:(List ((List UInt8)×Rat×Rat))) ++ k) ++ [(a.1,m,n)])) fun M =>
 bnd (idx f b) fun N =>
 bnd (idx e b) fun l =>
 bnd (Z3a 128 (([]:(List ((List UInt8)×Rat×Rat))) ++ l)) fun O =>
 bnd (Zre ((a.2.1.1,a.2.1.2))) fun o =>
 bnd (Zre ((a.2.2.1,a.2.2.2))) fun q =>
 bnd (Z3a 128 ((([]:(List ((List UInt8)×Rat×Rat))) ++ l) ++ [(a.1,o,q)])) fun P =>
 bnd (idx e b) fun Q =>
 bnd (chk .i64 (j+((1:Int)))) fun t =>
 some (.inl (((e.set (b).toNat (((([]:(List ((List UInt8)×Rat×Rat))) ++ l) ++ [(a.1,o,q)]))),(f.set (b).toNat (((([]:(List ((List UInt8)×Rat×Rat))) ++ k) ++ [(a.1,m,n)]))),t))))
 (some (.inr ((e,f)))))) Zda ((g,h,(0:Int))))
 (fun (p:(List (List ((List UInt8)×Rat×Rat)))×(List (List ((List UInt8)×Rat×Rat))))=>match p with
 | (u,v) =>
 (some ((u,v)))))
 (fun (p:(List (List ((List UInt8)×Rat×Rat)))×(List (List ((List UInt8)×Rat×Rat))))=>match p with
 | (w,x) =>
 (bnd (chk .i64 (b+((1:Int)))) fun y =>
 some (.inl ((w,x,y)))))))
 (some (.inr ((.inr ((g,h)))))))) Zda (((List.replicate ((r.2.length:Int)).toNat (([]:(List ((List UInt8)×Rat×Rat))))),(List.replicate ((r.2.length:Int)).toNat (([]:(List ((List UInt8)×Rat×Rat))))),(0:Int))))
 (fun (p:(((List UInt8)×(List (List ((List UInt8)×Rat×Rat))))×((List UInt8)×(List (List ((List UInt8)×Rat×Rat))))×Bool) ⊕ ((List (List ((List UInt8)×Rat×Rat)))×(List (List ((List UInt8)×Rat×Rat)))))=>match p with
 | .inl ((z,A,B)) =>
 (some ((.inr ((z,A,B)))))
 | .inr ((C,D)) =>
 (some ((.inl ((C,D)))))))
 (fun (p:((List (List ((List UInt8)×Rat×Rat)))×(List (List ((List UInt8)×Rat×Rat)))) ⊕ (((List UInt8)×(List (List ((List UInt8)×Rat×Rat))))×((List UInt8)×(List (List ((List UInt8)×Rat×Rat))))×Bool))=>match p with
 | .inl ((E,F)) =>
 (some (((c.1,F),(d.1,E),true)))
 | .inr ((G,H,I)) =>
 (some ((G,H,I)))))))
noncomputable def Zfi (r:((List UInt8)×(List (List ((List UInt8)×(Int×Int)×(Int×Int)))))) (stage:Int) (l:(List ((List UInt8)×(Int×Int)))):Option (Bool) :=
 bnd (ZUe ((r.1,r.2))) fun d =>
 bnd (ifb (!(d.2.2))
 (some true)
 (some (decide ((70:Int) < (l.length:Int)))))
 (fun (j:Bool) =>
 (ifb (j)
 (bnd (ZQf ) fun k =>
 some k)
 (bnd (bnd (mk 72 ((l.length:Int)) ((l.length:Int))) fun J =>
 bnd (mk 72 ((l.length:Int)) ((l.length:Int))) fun K =>
 some (((List.replicate ((l.length:Int)).toNat ((([]:List UInt8),(0:Rat)))),(List.replicate ((l.length:Int)).toNat ((([]:List UInt8),(none:Option Rat)))))))
 (fun (p:(List ((List UInt8)×Rat))×(List ((List UInt8)×(Option Rat))))=>match p with
 | (m,n) =>
 (bnd (bnd (ZZ (fun s:(List ((List UInt8)×Rat))×(List ((List UInt8)×(Option Rat)))×Int=>match s with
 | (g,h,a) =>
 (ifb (decide (a < (l.length:Int)))
 (bnd (idx l a) fun b =>
 bnd (ZJe ((b.2.1,b.2.2))) fun o =>
 bnd (idx g a) fun L =>
 bnd (Zre ((b.2.1,b.2.2))) fun q =>
 bnd (idx h a) fun M =>
 bnd (chk .i64 (a+((1:Int)))) fun t =>
 some (.inl (((g.set (a).toNat ((b.1,o))),(h.set (a).toNat ((b.1,(some q)))),t))))
 (some (.inr ((g,h)))))) Zda ((m,n,(0:Int))))
 (fun (p:(List ((List UInt8)×Rat))×(List ((List UInt8)×(Option Rat))))=>match p with
 | (u,v) =>
 (some ((u,v)))))
 (fun (p:(List ((List UInt8)×Rat))×(List ((List UInt8)×(Option Rat))))=>match p with
 | (w,x) =>
 (bnd (ZGf ((d.1.1,d.1.2)) stage w) fun f =>
 bnd (mapO (coP coI coQ) x) fun y =>
 bnd (Zyf ((d.2.1.1,d.2.1.2)) stage y) fun e =>
 bnd (ifb (f.2 != e.2)
 (some true)
 (some (((f.1.length:Int)) != ((e.1.length:Int)))))
 (fun (z:Bool) =>
 (ifb (z)
 (some false)
 (bnd (bnd (ZZ (fun s:Int=>match s with
 | c =>
 (ifb (decide (c < (f.1.length:Int)))
 (bnd (idx f.1 c) fun i =>
 bnd (bnd (idx e.1 c) fun A =>
 ifb (i.1 != A.1)
 (some true)
 (bnd (idx e.1 c) fun B =>
 bnd (Zmg i.2.1 B.2.1) fun C =>
 ifb (!(C))
 (some true)
 (bnd (idx e.1 c) fun D =>
 some (i.2.2 != D.2.2))))
 (fun (E:Bool) =>
 (ifb (E)
 (some (.inr ((.inl false))))
 (bnd (chk .i64 (c+((1:Int)))) fun F =>
 some (.inl F)))))
 (some (.inr ((.inr (()))))))) Zda ((0:Int)))
 (fun (p:(Bool) ⊕ (Unit))=>match p with
 | .inl G =>
 (some ((.inr G)))
 | .inr (()) =>
 (some ((.inl (()))))))
 (fun (p:(Unit) ⊕ (Bool))=>match p with
 | .inl (()) =>
 (bnd (ZQf ) fun H =>
 some H)
 | .inr I =>
 (some I))))))))))))
set_option maxRecDepth 100000
abbrev RawI := BS×(Int×Int)×(Int×Int)
abbrev RawR := BS×List (List RawI)
def toI (x:RawI):IT := (x.1, Zyd x.2.1, Zyd x.2.2)
def toL (l:List RawI):List IT := l.map toI
def ZId (r:RawR):RCP := (r.1, r.2.map toL)
theorem ZWn {α β:Type} (f:α→β) (z:β) (l:List α) {k:Nat} (h:k < l.length):(Z0a f z l k).set k z = Z0a f z l k := by
  unfold Z0a; have e:l.length - k = (l.length - (k+1))+1 := by omega
  have hl:((l.take k).map f).length = k := by simp; omega
  rw [e, List.replicate_succ]; have := Ztm ((l.take k).map f) (List.replicate (l.length - (k+1)) z) z z; rw [hl] at this; exact this
theorem ZMl {E R:Type} (bad:E→Prop) [DecidablePred bad] (g fin:Nat→R):∀ (l:List E) (s:Nat), (∃ k, ZGb (fun e s => if bad e then .inl (g s) else .inr (s+1)) fin l s = g k) ∨ ZGb (fun e s => if bad e then .inl (g s) else .inr (s+1)) fin l s = fin (s+l.length)
  | [], s => .inr rfl
  | e :: l, s => by
    unfold ZGb
    by_cases h:bad e
    · rw [if_pos h]; exact .inl ⟨s, rfl⟩
    · rw [if_neg h]
      rcases ZMl bad g fin l (s+1) with h1 | h1
      · exact .inl h1
      · refine .inr (h1.trans ?_)
        rw [List.length_cons, show s+1+l.length = s+(l.length+1) by omega]
theorem ZWo (r:RawR):(∃ A B, ZUe r = some (A, B, false)) ∨ ZUe r = some (ZId r, ZId r, true) := by
  unfold ZUe; rw [Zh]; simp only; by_cases h8:(8:Int) < r.2.length
  · rw [decide_eq_true h8, ZM]; exact .inl ⟨_, _, rfl⟩
  rw [decide_eq_false h8, ZI]; have hm:mk 24 (r.2.length:Int) (r.2.length:Int) = some () := by unfold mk; rw [if_pos ⟨by omega, by omega, by omega, by omega⟩]
  rw [hm]; simp only [Zh, Int.toNat_natCast]; have main := ZMl (fun e:List RawI => (20:Int) < e.length) (fun s => (.inl ((r.1, Z0a toL [] r.2 s), (r.1, Z0a toL [] r.2 s), false):(RCP×RCP×Bool) ⊕ (List (List IT)×List (List IT)))) (fun s => .inr (Z0a toL [] r.2 s, Z0a toL [] r.2 s)) r.2 0; rw [Nat.zero_add, Zzi] at main; rw [Zbk r.2 (fun s i => (Z0a toL [] r.2 s, Z0a toL [] r.2 s, (i:Int))) (fun e s => if (20:Int) < e.length then .inl (.inl ((r.1, Z0a toL [] r.2 s), (r.1, Z0a toL [] r.2 s), false)) else .inr (s+1)) (fun s => .inr (Z0a toL [] r.2 s, Z0a toL [] r.2 s)) (fun i s => s = i) (s0 := 0) ?_ rfl (by omega) ?_ ?_ ?_]
  · rcases main with ⟨k, e⟩ | e
    · rw [e]; exact .inl ⟨_, _, rfl⟩
    · rw [e]; exact .inr rfl
  · unfold Z0a; simp
  · rintro i s hi rfl; simp only; rw [decide_eq_true (by omega), ZM, Z5 hi, Zh]; by_cases h20:(20:Int) < r.2[s].length
    · rw [decide_eq_true h20, ZM, if_pos h20]
    rw [decide_eq_false h20, ZI, if_neg h20]; have e1 := ZUh toL [] r.2 hi; have e0 := ZWn toL [] r.2 hi; have pl := Z1h toL [] r.2 (k := s) (by omega); have hL:r.2[s].length≤20 := by omega
    refine Zab (y := (Z0a toL [] r.2 (s+1), Z0a toL [] r.2 (s+1))) (Zab (y := (Z0a toL [] r.2 (s+1), Z0a toL [] r.2 (s+1))) (Z4e (fun k => ((Z0a toL [] r.2 s).set s ((r.2[s].take k).map toI), (Z0a toL [] r.2 s).set s ((r.2[s].take k).map toI), (k:Int))) r.2[s].length ?_ (by omega) (fun k hk => ?_) ?_) rfl) ?_
    · simp only [List.take_zero, List.map_nil, e0]; rfl
    · have hs:s < ((Z0a toL [] r.2 s).set s ((r.2[s].take k).map toI)).length := by rw [List.length_set, pl]; exact hi
      have hg:((Z0a toL [] r.2 s).set s ((r.2[s].take k).map toI))[s] = (r.2[s].take k).map toI := by rw [List.getElem_set_self]
      have hlen:((r.2[s].take k).map toI).length = k := by simp; omega
      have r1:Z3a 128 ((r.2[s].take k).map toI) = some () := by unfold Z3a; rw [if_pos (by omega)]
      have r2:∀ x, Z3a 128 ((r.2[s].take k).map toI ++ [x]) = some () := fun x => by unfold Z3a; rw [if_pos (by rw [List.length_append, hlen, List.length_singleton]; omega)]
      have e := takeM toI r.2[s] hk; simp only; rw [decide_eq_true (by omega), ZM, Z5 hk, Zh, Z5 hs, hg]; simp only [Zh, List.nil_append]; unfold ZJe Zre; rw [r1]; simp only [Zh, r2, Int.toNat_natCast]; rw [Zsa (by omega) (by omega), Zh, e, List.set_set]; rfl
    · simp only; rw [decide_eq_false (by omega), ZI, List.take_length, ← e1]; rfl
    · simp only; rw [Zsa (by omega) (by omega), Zh]; rfl
  · rintro i s s' hi rfl hs; by_cases h20:(20:Int) < r.2[s].length
    · simp only [h20, if_true] at hs; cases hs
    · simp only [h20, if_false] at hs; cases hs; rfl
  · rintro s rfl; simp only; rw [decide_eq_false (by omega), ZI]
structure SzRaw (r:RawR):Prop where
  nam:r.1.length≤maxLen
  it:∀ l ∈ r.2, ∀ x ∈ l, x.1.length≤maxLen∧i64 x.2.1∧i64 x.2.2
theorem SzRaw.rc {r:RawR} (h:SzRaw r):SzRc (ZId r) := ⟨h.nam, fun l hl x hx => by
  obtain ⟨l0, h0, rfl⟩ := List.mem_map.1 hl
  obtain ⟨x0, h1, rfl⟩ := List.mem_map.1 hx
  obtain ⟨a, b, c⟩ := h.it l0 h0 x0 h1
  exact ⟨a, Z6j b, Z6j c⟩⟩
theorem wgh_sz {r:RCP} {stage:Int} {l:List AM} (h:SzRc r) (hl:∀ a ∈ l, sz 64 a.2) (hn:l.length≤70):(ZKe r stage l).1.length≤16∧szD 5000 (ZKe r stage l).1 := by
  unfold ZKe; by_cases c0:ZIc r ≠ 0
  · rw [if_pos c0]; exact ⟨by simp, fun i hi => by simp at hi⟩
  rw [if_neg c0]; by_cases c1:stage < 0 ∨ (r.2.length:Int)≤stage
  · rw [if_pos c1]; exact ⟨by simp, fun i hi => by simp at hi⟩
  rw [if_neg c1]; by_cases c2:(64:Int) < l.length
  · rw [if_pos c2]; exact ⟨by simp, fun i hi => by simp at hi⟩
  rw [if_neg c2]; have hst:stage.toNat < r.2.length := by omega
  have hlen := ZDk (Decidable.not_not.1 c0) hst; have hit:∀ x ∈ gS r.2 stage.toNat, x.1.length≤maxLen∧sz 64 x.2.1∧sz 64 x.2.2 := by
    unfold gS; rw [ZOb hst]; exact h.it _ (List.getElem_mem hst)
  generalize gS r.2 stage.toNat = it at hlen hit; have z0:szD 65 (it.map d0) := fun j hj => by
    rw [List.length_map] at hj; unfold gD'; rw [ZOb (by simpa using hj)]; simp only [List.getElem_map, d0]; exact (Zoi (hit _ (List.getElem_mem hj)).2.1).mono (by omega)
  have hJ := Zuk (f := ZLb it) (fin := fun out => (.inr out:(List DV×Int) ⊕ List DV)) (fun i s => s.length = it.length∧szD (65 * (i+1)) s) (fun x => (∀ o, x = .inr o→o.length = it.length∧szD 5000 o)∧∀ e, x = .inl e→e.1 = []) l
    (fun i s x hi hI hx => by
      unfold ZLb at hx; split at hx
      · cases hx; exact ⟨fun o ho => (by cases ho), fun e he => by cases he; rfl⟩
      · split at hx
        · cases hx; exact ⟨fun o ho => (by cases ho), fun e he => by cases he; rfl⟩
        · cases hx) (Znj h hl hn hlen hit) (fun s hI => ⟨fun o ho => by cases ho; exact ⟨hI.1, fun j hj => (hI.2 j hj).mono (by omega)⟩, fun e he => by cases he⟩) (s0 := it.map d0) ⟨by simp, z0⟩
  cases hR:ZGb (ZLb it) (fun out => (.inr out:(List DV×Int) ⊕ List DV)) l (it.map d0) with
  | inl e => simp only; rw [hJ.2 e hR]; exact ⟨by simp, fun i hi => by simp at hi⟩
  | inr o =>
    obtain ⟨ol, oz⟩ := hJ.1 o hR; exact ⟨by simp only; rw [Z2e, ol]; omega, Zyj oz _ (by omega)⟩
def toA (x:BS×(Int×Int)):AM := (x.1, Zyd x.2)
def toAo (x:BS×(Int×Int)):BS×Option Rat := (x.1, some (Zyd x.2))
theorem ZYn (r:RawR) (stage:Int) (l:List (BS×(Int×Int))) (h:SzRaw r) (hl:∀ x ∈ l, i64 x.2):Zfi r stage l = some true := by
  unfold Zfi; rcases ZWo r with ⟨A, B, e⟩ | e
  · rw [show ZUe (r.1, r.2) = some (A, B, false) from e, Zh]; simp only [Bool.not_false, ZM, Zh]; rw [Z7k, Zh]
  rw [show ZUe (r.1, r.2) = some (ZId r, ZId r, true) from e, Zh]; simp only [Bool.not_true, ZI, Zh]; by_cases h70:(70:Int) < l.length
  · rw [decide_eq_true h70, ZM, Z7k, Zh]
  rw [decide_eq_false h70, ZI]; have hm:mk 72 (l.length:Int) (l.length:Int) = some () := by unfold mk; rw [if_pos ⟨by omega, by omega, by omega, by omega⟩]
  rw [hm]; simp only [Zh, Int.toNat_natCast]; have hrc := h.rc; have hA:∀ a ∈ l.map toA, sz 64 a.2 := fun a ha => by
    obtain ⟨x, hx, rfl⟩ := List.mem_map.1 ha; exact Z6j (hl x hx)
  refine Zab (y := (l.map toA, l.map toAo)) (Zab (y := (l.map toA, l.map toAo)) (Z4e (fun k => (Z0a toA ([], 0) l k, Z0a toAo ([], none) l k, (k:Int))) l.length ?_ (by omega) (fun k hk => ?_) ?_) rfl) ?_
  · unfold Z0a; simp
  · have p1 := Z1h toA ([], 0) l (k := k) (by omega); have p2 := Z1h toAo ([], none) l (k := k) (by omega); have s1 := ZUh toA ([], 0) l hk; have s2 := ZUh toAo ([], none) l hk; simp only; rw [decide_eq_true (by omega), ZM, Z5 hk, Zh]; unfold ZJe Zre; rw [Zh, Z5 (by omega), Zh, Zh, Z5 (by omega), Zh, Zsa (by omega) (by omega), Zh, Int.toNat_natCast, ← s1, ← s2]; rfl
  · simp only; rw [decide_eq_false (by omega), ZI, Zzi, Zzi]
  simp only; have hn:(l.map toA).length≤70 := by rw [List.length_map]; omega
  have w1 := Zjq (stage := stage) hrc hA hn; have w2 := Zyr (stage := stage) hrc hA hn; obtain ⟨zl, zs⟩ := wgh_sz (stage := stage) hrc hA hn; rw [show ZGf ((ZId r).1, (ZId r).2) stage (l.map toA) = _ from w1, Zh, ZMj (coP coI coQ) toAo toA (fun x => rfl), Zh, show Zyf ((ZId r).1, (ZId r).2) stage (l.map toA) = _ from w2, Zh]; generalize ZKe (ZId r) stage (l.map toA) = p at zl zs; simp only [bne_self_eq_false, ZI, Zh]; refine Zab (y := .inl ()) (Zab (y := .inr ()) (Z4e (fun k => (k:Int)) p.1.length rfl (by omega) (fun k hk => ?_) ?_) rfl) ?_
  · have z := zs k hk; unfold gD' at z; rw [ZOb hk] at z
    skip
    rw [decide_eq_true (by omega), ZM, Z5 hk]; simp only [Zh, bne_self_eq_false, ZI]; rw [is1_ok z (by omega), Zh]; simp only [Bool.not_true, ZI, Zh]; rw [Zsa (by omega) (by omega), Zh]; rfl
  · skip
    rw [decide_eq_false (by omega), ZI]
  · simp only; rw [Z7k, Zh]
theorem ZVk {α:Type} {A:Rep α} {v:Zc} {cs:List Value} {l:List α} (h:(ZC A).rel v cs l) {x:α} (hx:x ∈ l):∃ c, A.rel v c x := by
  obtain ⟨q, cap, rfl, h1, h2, h3⟩ := h; rcases h3 with rfl | ⟨b, off, c, T, fr, e, hb, hr⟩
  · cases hx
  · obtain ⟨i, hi, rfl⟩ := List.getElem_of_mem hx; exact ⟨_, ZBa hr (List.getElem?_eq_getElem hi)⟩
theorem ZJj {v:Zc} {c:List Value} {r:Int×Int} (h:Rep.rel (Zj (Zd .i64) (Zd .i64)) v c r):i64 r := by
  obtain ⟨c1, c2, _, ⟨_, h1⟩, _, h2⟩ := h; exact ⟨ZYb.1 h1, ZYb.1 h2⟩
end Go.Eng
namespace Go.Eng
open Go.RowKit Go.WideShapes Go.ChangeShapes
theorem Zco {P:Program} {t:TypeId} (ht:P.underlying t = some .string):ZTb P t Zt := by
  intro H enc W fuel cs x h
  cases fuel with
  | zero => simp [DataW.trod] at h
  | succ n =>
    unfold DataW.trod at h; rw [ht] at h; split at h
    all_goals first | (rename_i s heq; cases heq; split at h <;> first | (exact ⟨s.data.toList, rfl, by rename_i hs; exact hs⟩) | cases h) | (rename_i heq; cases heq) | (rename_i heq _; cases heq) | (simp at *) | cases h
theorem ZSo {P:Program} {t:TypeId} {f0 f1 f2:Field} {α β γ:Type} {A:Rep α} {B:Rep β} {C:Rep γ} (ht:P.underlying t = some (.struct #[f0, f1, f2])) (hA:ZTb P f0.type A) (hB:ZTb P f1.type B) (hC:ZTb P f2.type C)
    (o0:f0.offset = 0) (c0:P.cellsOf f0.type = A.n) (o1:f1.offset = A.n) (c1:P.cellsOf f1.type = B.n) (o2:f2.offset = A.n+B.n) (c2:P.cellsOf f2.type = C.n) (ct:P.cellsOf t = A.n+B.n+C.n):ZTb P t (Zj A (Zj B C)) := by
  intro H enc W fuel cs x h; obtain ⟨xs, n, _, _, hl, hx, hf⟩ := DataW.trod_struct ht h; have hx:xs.length = 3 := hx; have h0 := hf 0 f0 rfl; have h1 := hf 1 f1 rfl; have h2 := hf 2 f2 rfl; rw [List.getElem?_eq_getElem (by omega)] at h0 h1 h2; rw [o0, c0, List.drop_zero] at h0; rw [o1, c1] at h1; rw [o2, c2] at h2; obtain ⟨a, ha⟩ := hA _ _ _ _ _ _ h0; obtain ⟨b, hb⟩ := hB _ _ _ _ _ _ h1; obtain ⟨c, hc⟩ := hC _ _ _ _ _ _ h2; rw [List.take_of_length_le (by rw [List.length_drop, hl, ct]; omega)] at hc; refine ⟨(a, b, c), cs.take A.n, cs.drop A.n, (List.take_append_drop _ _).symm, ha, (cs.drop A.n).take B.n, cs.drop (A.n+B.n), ?_, hb, hc⟩; rw [← List.drop_drop, List.take_append_drop]
end Go.Eng
namespace Go.Eng
open Go.RowKit
theorem Ze {α:Type _} {a b:α} (h:some a = some b):a = b := Option.some.inj h
theorem Zx (b:Bool):b = true ∨ b = false := (Bool.eq_false_or_eq_true b)
theorem leT {a b c:Zc} (h:a.le b) (k:b.le c):a.le c := Zc.le_trans h k
theorem leR (v:Zc):v.le v := Zc.le_refl v
theorem Zo {P:Program} {Q:Exit→Act→World→Prop} {a:Act} {w:World} {id:Nat} {l:List Oper} (h:wpList P l.toArray Q l a w):(Code.region id l.toArray false).wp P Q a w := wp_region_lit h
theorem Zg {P:Program} {Q:Exit→Act→World→Prop} {a:Act} {w:World} {x y:Code} (h:∀ K:Act→World→Prop, (∀ a w, y.wp P Q a w→K a w)→x.wp P (Exit.then K Q) a w):(Code.seq x y).wp P Q a w := wp_seq_k h
theorem Zq {α:Type} {A:Rep α} {v v':Zc} {cs:List Value} {x:α} (hv:v.le v') (h:A.rel v cs x):A.rel v' cs x := A.mono hv h
theorem Zwa {α:Type} (A:Rep α) {v:Zc} {cs:List Value} {x:α} (h:A.rel v cs x):cs.all ZYa = true := A.flat h
theorem Atm {v v':Zc} {b off:Nat} {cs:List Value} (h:v.le v') (k:At v b off cs):At v' b off cs := At.mono h k
end Go.Eng
namespace Go.Eng
open Go.Proofs Go.RowKit
theorem Zym:ArrOf Tryz.prog 255 20 1 := ⟨5, fun _ => by kernel_rfl, fun _ => by kernel_rfl⟩
theorem Z9c:ZAd Tryz.prog 184 185 .u64 .u32 := fun _ _ => by kernel_rfl
theorem Zwm:ZAd Tryz.prog 184 3 .u64 .i64 := fun _ _ => by kernel_rfl
theorem Z1m:ZAd Tryz.prog 184 5 .u64 .u8 := fun _ _ => by kernel_rfl
theorem Zuc:ZAd Tryz.prog 185 184 .u32 .u64 := fun _ _ => by kernel_rfl
theorem Z4l:ZAd Tryz.prog 185 2 .u32 .i64 := fun _ _ => by kernel_rfl
theorem Z9i:ZAd Tryz.prog 2 184 .i64 .u64 := fun _ _ => by kernel_rfl
theorem ZHo:ZAd Tryz.prog 2 185 .i64 .u32 := fun _ _ => by kernel_rfl
theorem Z6o:ZAd Tryz.prog 3 184 .i64 .u64 := fun _ _ => by kernel_rfl
theorem ZYk:ZAd Tryz.prog 3 222 .i64 .u64 := fun _ _ => by kernel_rfl
theorem k_cv5_3:ZAd Tryz.prog 5 3 .u8 .i64 := fun _ _ => by kernel_rfl
theorem k_el100:Elem Tryz.prog 100 143 6 112 (Value.agg #[Value.bool false, Value.slice none 0 0, Value.slice none 0 0, Value.bool false, Value.slice none 0 0, Value.slice none 0 0]) := ⟨Tryz.underlying100, by kernel_rfl, rfl, by decide⟩
theorem Zak:Elem Tryz.prog 132 134 7 128 (Value.agg #[Value.string (Zm []), Value.bool false, Value.slice none 0 0, Value.slice none 0 0, Value.bool false, Value.slice none 0 0, Value.slice none 0 0]) := ⟨Tryz.underlying132, by kernel_rfl, rfl, by decide⟩
theorem Zbl:Elem Tryz.prog 139 141 7 128 (Value.agg #[Value.string (Zm []), Value.bool false, Value.slice none 0 0, Value.slice none 0 0, Value.bool false, Value.slice none 0 0, Value.slice none 0 0]) := ⟨Tryz.underlying139, by kernel_rfl, rfl, by decide⟩
theorem ZVm:Elem Tryz.prog 210 233 6 112 (Value.agg #[Value.bool false, Value.slice none 0 0, Value.slice none 0 0, Value.bool false, Value.slice none 0 0, Value.slice none 0 0]) := ⟨Tryz.underlying210, by kernel_rfl, rfl, by decide⟩
theorem k_el26:Elem Tryz.prog 26 132 1 24 (Value.slice none 0 0) := ⟨Tryz.underlying26, by kernel_rfl, rfl, by decide⟩
theorem k_el29:Elem Tryz.prog 29 139 1 24 (Value.slice none 0 0) := ⟨Tryz.underlying29, by kernel_rfl, rfl, by decide⟩
theorem Z3m:Elem Tryz.prog 35 49 4 72 (Value.agg #[Value.string (Zm []), Value.bool false, Value.slice none 0 0, Value.slice none 0 0]) := ⟨Tryz.underlying35, by kernel_rfl, rfl, by decide⟩
theorem Zhk:Elem Tryz.prog 36 55 4 72 (Value.agg #[Value.string (Zm []), Value.bool false, Value.slice none 0 0, Value.slice none 0 0]) := ⟨Tryz.underlying36, by kernel_rfl, rfl, by decide⟩
theorem ZNc:Elem Tryz.prog 42 184 1 8 (Value.int IntKind.u64 0) := ⟨Tryz.underlying42, by kernel_rfl, rfl, by decide⟩
theorem ZEb:Elem Tryz.prog 50 185 1 4 (Value.int IntKind.u32 0) := ⟨Tryz.underlying50, by kernel_rfl, rfl, by decide⟩
theorem Z7m:Elem Tryz.prog 56 64 5 80 (Value.agg #[Value.string (Zm []), Value.bool false, Value.slice none 0 0, Value.slice none 0 0, Value.bool false]) := ⟨Tryz.underlying56, by kernel_rfl, rfl, by decide⟩
theorem k_el60:Elem Tryz.prog 60 66 5 80 (Value.agg #[Value.string (Zm []), Value.bool false, Value.slice none 0 0, Value.slice none 0 0, Value.bool false]) := ⟨Tryz.underlying60, by kernel_rfl, rfl, by decide⟩
theorem ZQl:Elem Tryz.prog 69 9 1 16 (Value.string (Zm [])) := ⟨Tryz.underlying69, by kernel_rfl, rfl, by decide⟩
theorem Zdk:ZV Tryz.prog 10 := fun _ _ => by kernel_rfl
theorem ZKm:ZV Tryz.prog 100 := fun _ _ => by kernel_rfl
theorem k_en101:ZV Tryz.prog 101 := fun _ _ => by kernel_rfl
theorem k_en102:ZV Tryz.prog 102 := fun _ _ => by kernel_rfl
theorem Zoe:ZV Tryz.prog 103 := fun _ _ => by kernel_rfl
theorem Z2f:ZV Tryz.prog 104 := fun _ _ => by kernel_rfl
theorem k_en105:ZV Tryz.prog 105 := fun _ _ => by kernel_rfl
theorem Zpi:ZV Tryz.prog 106 := fun _ _ => by kernel_rfl
theorem k_en107:ZV Tryz.prog 107 := fun _ _ => by kernel_rfl
theorem k_en11:ZV Tryz.prog 11 := fun _ _ => by kernel_rfl
theorem k_en111:ZV Tryz.prog 111 := fun _ _ => by kernel_rfl
theorem ZAk:ZV Tryz.prog 112 := fun _ _ => by kernel_rfl
theorem Zle:ZV Tryz.prog 113 := fun _ _ => by kernel_rfl
theorem Zxd:ZV Tryz.prog 114 := fun _ _ => by kernel_rfl
theorem k_en115:ZV Tryz.prog 115 := fun _ _ => by kernel_rfl
theorem Zdj:ZV Tryz.prog 116 := fun _ _ => by kernel_rfl
theorem Z2j:ZV Tryz.prog 117 := fun _ _ => by kernel_rfl
theorem k_en119:ZV Tryz.prog 119 := fun _ _ => by kernel_rfl
theorem k_en12:ZV Tryz.prog 12 := fun _ _ => by kernel_rfl
theorem Z7j:ZV Tryz.prog 120 := fun _ _ => by kernel_rfl
theorem Zhn:ZV Tryz.prog 121 := fun _ _ => by kernel_rfl
theorem ZEm:ZV Tryz.prog 122 := fun _ _ => by kernel_rfl
theorem Zjm:ZV Tryz.prog 123 := fun _ _ => by kernel_rfl
theorem k_en124:ZV Tryz.prog 124 := fun _ _ => by kernel_rfl
theorem k_en125:ZV Tryz.prog 125 := fun _ _ => by kernel_rfl
theorem ZVj:ZV Tryz.prog 126 := fun _ _ => by kernel_rfl
theorem Zll:ZV Tryz.prog 127 := fun _ _ => by kernel_rfl
theorem k_en128:ZV Tryz.prog 128 := fun _ _ => by kernel_rfl
theorem k_en129:ZV Tryz.prog 129 := fun _ _ => by kernel_rfl
theorem ZJl:ZV Tryz.prog 13 := fun _ _ => by kernel_rfl
theorem k_en130:ZV Tryz.prog 130 := fun _ _ => by kernel_rfl
theorem k_en131:ZV Tryz.prog 131 := fun _ _ => by kernel_rfl
theorem k_en132:ZV Tryz.prog 132 := fun _ _ => by kernel_rfl
theorem Zhl:ZV Tryz.prog 133 := fun _ _ => by kernel_rfl
theorem k_en134:ZV Tryz.prog 134 := fun _ _ => by kernel_rfl
theorem k_en135:ZV Tryz.prog 135 := fun _ _ => by kernel_rfl
theorem Zrn:ZV Tryz.prog 136 := fun _ _ => by kernel_rfl
theorem Zvi:ZV Tryz.prog 137 := fun _ _ => by kernel_rfl
theorem k_en138:ZV Tryz.prog 138 := fun _ _ => by kernel_rfl
theorem k_en139:ZV Tryz.prog 139 := fun _ _ => by kernel_rfl
theorem k_en14:ZV Tryz.prog 14 := fun _ _ => by kernel_rfl
theorem k_en141:ZV Tryz.prog 141 := fun _ _ => by kernel_rfl
theorem ZLn:ZV Tryz.prog 142 := fun _ _ => by kernel_rfl
theorem k_en148:ZV Tryz.prog 148 := fun _ _ => by kernel_rfl
theorem k_en149:ZV Tryz.prog 149 := fun _ _ => by kernel_rfl
theorem k_en15:ZV Tryz.prog 15 := fun _ _ => by kernel_rfl
theorem Z3h:ZV Tryz.prog 150 := fun _ _ => by kernel_rfl
theorem Znh:ZV Tryz.prog 151 := fun _ _ => by kernel_rfl
theorem k_en152:ZV Tryz.prog 152 := fun _ _ => by kernel_rfl
theorem k_en153:ZV Tryz.prog 153 := fun _ _ => by kernel_rfl
theorem Zin:ZV Tryz.prog 158 := fun _ _ => by kernel_rfl
theorem k_en160:ZV Tryz.prog 160 := fun _ _ => by kernel_rfl
theorem k_en162:ZV Tryz.prog 162 := fun _ _ => by kernel_rfl
theorem ZWl:ZV Tryz.prog 166 := fun _ _ => by kernel_rfl
theorem k_en167:ZV Tryz.prog 167 := fun _ _ => by kernel_rfl
theorem ZIm:ZV Tryz.prog 168 := fun _ _ => by kernel_rfl
theorem ZGi:ZV Tryz.prog 31 := fun _ _ => by kernel_rfl
theorem k_en34:ZV Tryz.prog 34 := fun _ _ => by kernel_rfl
theorem ZEe:ZV Tryz.prog 38 := fun _ _ => by kernel_rfl
theorem Zze:ZV Tryz.prog 40 := fun _ _ => by kernel_rfl
theorem k_en41:ZV Tryz.prog 41 := fun _ _ => by kernel_rfl
theorem k_en42:ZV Tryz.prog 42 := fun _ _ => by kernel_rfl
theorem k_en43:ZV Tryz.prog 43 := fun _ _ => by kernel_rfl
theorem Z8e:ZV Tryz.prog 44 := fun _ _ => by kernel_rfl
theorem k_en45:ZV Tryz.prog 45 := fun _ _ => by kernel_rfl
theorem k_en46:ZV Tryz.prog 46 := fun _ _ => by kernel_rfl
theorem ZJk:ZV Tryz.prog 47 := fun _ _ => by kernel_rfl
theorem Z7l:ZV Tryz.prog 48 := fun _ _ => by kernel_rfl
theorem k_en49:ZV Tryz.prog 49 := fun _ _ => by kernel_rfl
theorem ZTc:ZV Tryz.prog 50 := fun _ _ => by kernel_rfl
theorem k_en51:ZV Tryz.prog 51 := fun _ _ => by kernel_rfl
theorem Zgg:ZV Tryz.prog 52 := fun _ _ => by kernel_rfl
theorem ZMk:ZV Tryz.prog 53 := fun _ _ => by kernel_rfl
theorem Z5m:ZV Tryz.prog 54 := fun _ _ => by kernel_rfl
theorem ZHe:ZV Tryz.prog 55 := fun _ _ => by kernel_rfl
theorem Zgl:ZV Tryz.prog 56 := fun _ _ => by kernel_rfl
theorem ZFl:ZV Tryz.prog 57 := fun _ _ => by kernel_rfl
theorem k_en58:ZV Tryz.prog 58 := fun _ _ => by kernel_rfl
theorem Zom:ZV Tryz.prog 59 := fun _ _ => by kernel_rfl
theorem k_en60:ZV Tryz.prog 60 := fun _ _ => by kernel_rfl
theorem k_en61:ZV Tryz.prog 61 := fun _ _ => by kernel_rfl
theorem ZBm:ZV Tryz.prog 62 := fun _ _ => by kernel_rfl
theorem ZEd:ZV Tryz.prog 63 := fun _ _ => by kernel_rfl
theorem Zcj:ZV Tryz.prog 64 := fun _ _ => by kernel_rfl
theorem k_en7:ZV Tryz.prog 7 := fun _ _ => by kernel_rfl
theorem Zol:ZV Tryz.prog 72 := fun _ _ => by kernel_rfl
theorem Z9e:ZV Tryz.prog 73 := fun _ _ => by kernel_rfl
theorem Zaj:ZV Tryz.prog 74 := fun _ _ => by kernel_rfl
theorem k_en76:ZV Tryz.prog 76 := fun _ _ => by kernel_rfl
theorem Zwf:ZV Tryz.prog 78 := fun _ _ => by kernel_rfl
theorem k_en8:ZV Tryz.prog 8 := fun _ _ => by kernel_rfl
theorem Z1g:ZV Tryz.prog 80 := fun _ _ => by kernel_rfl
theorem ZSg:ZV Tryz.prog 81 := fun _ _ => by kernel_rfl
theorem Zde:ZV Tryz.prog 82 := fun _ _ => by kernel_rfl
theorem ZKn:ZV Tryz.prog 83 := fun _ _ => by kernel_rfl
theorem Zlh:ZV Tryz.prog 84 := fun _ _ => by kernel_rfl
theorem Ztj:ZV Tryz.prog 85 := fun _ _ => by kernel_rfl
theorem k_en89:ZV Tryz.prog 89 := fun _ _ => by kernel_rfl
theorem k_en9:ZV Tryz.prog 9 := fun _ _ => by kernel_rfl
theorem k_en90:ZV Tryz.prog 90 := fun _ _ => by kernel_rfl
theorem ZLh:ZV Tryz.prog 92 := fun _ _ => by kernel_rfl
theorem Z1j:ZV Tryz.prog 93 := fun _ _ => by kernel_rfl
theorem Zbf:ZV Tryz.prog 94 := fun _ _ => by kernel_rfl
theorem Zfh:ZV Tryz.prog 95 := fun _ _ => by kernel_rfl
theorem k_en96:ZV Tryz.prog 96 := fun _ _ => by kernel_rfl
theorem k_en97:ZV Tryz.prog 97 := fun _ _ => by kernel_rfl
theorem k_en98:ZV Tryz.prog 98 := fun _ _ => by kernel_rfl
theorem k_en99:ZV Tryz.prog 99 := fun _ _ => by kernel_rfl
theorem ZZm:EqB Tryz.prog 4 := fun _ _ _ => by kernel_rfl
theorem ZJg:ZWd Tryz.prog 118 add64Entry := ⟨_, Tryz.func118, by kernel_rfl, by kernel_rfl, by kernel_rfl, by kernel_rfl⟩
theorem ZGl:ZWd Tryz.prog 140 Zsk := ⟨_, Tryz.func140, by kernel_rfl, by kernel_rfl, by kernel_rfl, by kernel_rfl⟩
theorem Zhg:ZWd Tryz.prog 164 Extern.MathFloatBits.float64frombits := ⟨_, Tryz.func164, by kernel_rfl, by kernel_rfl, by kernel_rfl, by kernel_rfl⟩
theorem Zvh:ZWd Tryz.prog 165 Extern.MathFloatBits.float64bits := ⟨_, Tryz.func165, by kernel_rfl, by kernel_rfl, by kernel_rfl, by kernel_rfl⟩
theorem Zsn:ZOa Tryz.prog 102 0 0 := fun _ _ _ => by kernel_rfl
theorem Z0h:ZOa Tryz.prog 102 1 3 := fun _ _ _ => by kernel_rfl
theorem Z9f:ZOa Tryz.prog 134 0 0 := fun _ _ _ => by kernel_rfl
theorem Z2g:ZOa Tryz.prog 134 1 1 := fun _ _ _ => by kernel_rfl
theorem Zzg:ZOa Tryz.prog 134 2 4 := fun _ _ _ => by kernel_rfl
theorem ZBd:ZOa Tryz.prog 138 0 0 := fun _ _ _ => by kernel_rfl
theorem ZXf:ZOa Tryz.prog 138 1 1 := fun _ _ _ => by kernel_rfl
theorem Zne:ZOa Tryz.prog 138 2 3 := fun _ _ _ => by kernel_rfl
theorem Z4g:ZOa Tryz.prog 141 0 0 := fun _ _ _ => by kernel_rfl
theorem ZHg:ZOa Tryz.prog 141 1 1 := fun _ _ _ => by kernel_rfl
theorem ZIh:ZOa Tryz.prog 141 2 4 := fun _ _ _ => by kernel_rfl
theorem ZJf:ZOa Tryz.prog 143 0 0 := fun _ _ _ => by kernel_rfl
theorem ZDi:ZOa Tryz.prog 143 1 3 := fun _ _ _ => by kernel_rfl
theorem ZPp:ZOa Tryz.prog 149 0 0 := fun _ _ _ => by kernel_rfl
theorem Z9o:ZOa Tryz.prog 149 1 1 := fun _ _ _ => by kernel_rfl
theorem Zhc:ZOa Tryz.prog 233 0 0 := fun _ _ _ => by kernel_rfl
theorem Z9b:ZOa Tryz.prog 233 1 3 := fun _ _ _ => by kernel_rfl
theorem Z5c:ZOa Tryz.prog 24 0 0 := fun _ _ _ => by kernel_rfl
theorem ZXi:ZOa Tryz.prog 24 1 1 := fun _ _ _ => by kernel_rfl
theorem Z7o:ZOa Tryz.prog 28 0 0 := fun _ _ _ => by kernel_rfl
theorem Zkc:ZOa Tryz.prog 28 1 1 := fun _ _ _ => by kernel_rfl
theorem ZZp:ZOa Tryz.prog 31 0 0 := fun _ _ _ => by kernel_rfl
theorem Zac:ZOa Tryz.prog 31 1 1 := fun _ _ _ => by kernel_rfl
theorem ZXh:ZOa Tryz.prog 38 0 0 := fun _ _ _ => by kernel_rfl
theorem ZEj:ZOa Tryz.prog 38 1 1 := fun _ _ _ => by kernel_rfl
theorem ZRi:ZOa Tryz.prog 40 0 0 := fun _ _ _ => by kernel_rfl
theorem ZWm:ZOa Tryz.prog 40 1 1 := fun _ _ _ => by kernel_rfl
theorem Zzb:ZOa Tryz.prog 44 0 0 := fun _ _ _ => by kernel_rfl
theorem Zlb:ZOa Tryz.prog 44 1 1 := fun _ _ _ => by kernel_rfl
theorem ZUb:ZOa Tryz.prog 46 0 0 := fun _ _ _ => by kernel_rfl
theorem Z4b:ZOa Tryz.prog 46 1 2 := fun _ _ _ => by kernel_rfl
theorem Znr:ZOa Tryz.prog 49 0 0 := fun _ _ _ => by kernel_rfl
theorem Zkn:ZOa Tryz.prog 49 1 1 := fun _ _ _ => by kernel_rfl
theorem Z6b:ZOa Tryz.prog 52 0 0 := fun _ _ _ => by kernel_rfl
theorem Z5d:ZOa Tryz.prog 52 1 1 := fun _ _ _ => by kernel_rfl
theorem Zkk:ZOa Tryz.prog 52 2 2 := fun _ _ _ => by kernel_rfl
theorem Zop:ZOa Tryz.prog 55 0 0 := fun _ _ _ => by kernel_rfl
theorem Zgn:ZOa Tryz.prog 55 1 1 := fun _ _ _ => by kernel_rfl
theorem Z3k:ZOa Tryz.prog 64 0 0 := fun _ _ _ => by kernel_rfl
theorem ZTg:ZOa Tryz.prog 64 1 1 := fun _ _ _ => by kernel_rfl
theorem Zwl:ZOa Tryz.prog 64 2 4 := fun _ _ _ => by kernel_rfl
theorem Z5k:ZOa Tryz.prog 66 0 0 := fun _ _ _ => by kernel_rfl
theorem Zph:ZOa Tryz.prog 66 1 1 := fun _ _ _ => by kernel_rfl
theorem ZLl:ZOa Tryz.prog 66 2 4 := fun _ _ _ => by kernel_rfl
theorem Zha:Tryz.prog.follows .mixedOrders = true := by kernel_rfl
theorem ZZf:NeB Tryz.prog 4 := fun _ _ _ => by kernel_rfl
theorem ZEf:Zsb Tryz.prog 100 143 6 := ⟨fun _ => by kernel_rfl, fun _ => by kernel_rfl⟩
theorem ZUc:Zsb Tryz.prog 132 134 7 := ⟨fun _ => by kernel_rfl, fun _ => by kernel_rfl⟩
theorem ZFk:Zsb Tryz.prog 136 138 5 := ⟨fun _ => by kernel_rfl, fun _ => by kernel_rfl⟩
theorem ZBb:Zsb Tryz.prog 139 141 7 := ⟨fun _ => by kernel_rfl, fun _ => by kernel_rfl⟩
theorem Zlg:Zsb Tryz.prog 150 149 2 := ⟨fun _ => by kernel_rfl, fun _ => by kernel_rfl⟩
theorem ZRc:Zsb Tryz.prog 210 233 6 := ⟨fun _ => by kernel_rfl, fun _ => by kernel_rfl⟩
theorem Zul:Zsb Tryz.prog 216 5 1 := ⟨fun _ => by kernel_rfl, fun _ => by kernel_rfl⟩
theorem Zoh:Zsb Tryz.prog 22 136 1 := ⟨fun _ => by kernel_rfl, fun _ => by kernel_rfl⟩
theorem Z4c:Zsb Tryz.prog 25 40 3 := ⟨fun _ => by kernel_rfl, fun _ => by kernel_rfl⟩
theorem ZLd:Zsb Tryz.prog 26 132 1 := ⟨fun _ => by kernel_rfl, fun _ => by kernel_rfl⟩
theorem ZGd:Zsb Tryz.prog 29 139 1 := ⟨fun _ => by kernel_rfl, fun _ => by kernel_rfl⟩
theorem ZHi:Zsb Tryz.prog 35 49 4 := ⟨fun _ => by kernel_rfl, fun _ => by kernel_rfl⟩
theorem Z4f:Zsb Tryz.prog 36 55 4 := ⟨fun _ => by kernel_rfl, fun _ => by kernel_rfl⟩
theorem ZX:Zsb Tryz.prog 42 184 1 := ⟨fun _ => by kernel_rfl, fun _ => by kernel_rfl⟩
theorem Zja:Zsb Tryz.prog 50 185 1 := ⟨fun _ => by kernel_rfl, fun _ => by kernel_rfl⟩
theorem Zkf:Zsb Tryz.prog 56 64 5 := ⟨fun _ => by kernel_rfl, fun _ => by kernel_rfl⟩
theorem ZVc:Zsb Tryz.prog 60 66 5 := ⟨fun _ => by kernel_rfl, fun _ => by kernel_rfl⟩
theorem ZQj:Zsb Tryz.prog 69 9 1 := ⟨fun _ => by kernel_rfl, fun _ => by kernel_rfl⟩
theorem Zai:Sized Tryz.prog 100 1 false := ⟨fun _ => by kernel_rfl, fun _ => by kernel_rfl⟩
theorem Zse:Sized Tryz.prog 102 4 true := ⟨fun _ => by kernel_rfl, fun _ => by kernel_rfl⟩
theorem Zkg:Sized Tryz.prog 132 1 false := ⟨fun _ => by kernel_rfl, fun _ => by kernel_rfl⟩
theorem ZMe:Sized Tryz.prog 134 7 true := ⟨fun _ => by kernel_rfl, fun _ => by kernel_rfl⟩
theorem k_sz136:Sized Tryz.prog 136 1 false := ⟨fun _ => by kernel_rfl, fun _ => by kernel_rfl⟩
theorem ZAl:Sized Tryz.prog 138 5 true := ⟨fun _ => by kernel_rfl, fun _ => by kernel_rfl⟩
theorem ZDh:Sized Tryz.prog 139 1 false := ⟨fun _ => by kernel_rfl, fun _ => by kernel_rfl⟩
theorem Zji:Sized Tryz.prog 143 6 true := ⟨fun _ => by kernel_rfl, fun _ => by kernel_rfl⟩
theorem Zmm:Sized Tryz.prog 147 1 false := ⟨fun _ => by kernel_rfl, fun _ => by kernel_rfl⟩
theorem Zpn:Sized Tryz.prog 149 2 true := ⟨fun _ => by kernel_rfl, fun _ => by kernel_rfl⟩
theorem ZGa:Sized Tryz.prog 184 1 false := ⟨fun _ => by kernel_rfl, fun _ => by kernel_rfl⟩
theorem Zrb:Sized Tryz.prog 185 1 false := ⟨fun _ => by kernel_rfl, fun _ => by kernel_rfl⟩
theorem Zte:Sized Tryz.prog 2 1 false := ⟨fun _ => by kernel_rfl, fun _ => by kernel_rfl⟩
theorem ZTi:Sized Tryz.prog 22 1 false := ⟨fun _ => by kernel_rfl, fun _ => by kernel_rfl⟩
theorem Zdc:Sized Tryz.prog 233 6 true := ⟨fun _ => by kernel_rfl, fun _ => by kernel_rfl⟩
theorem k_sz24:Sized Tryz.prog 24 2 true := ⟨fun _ => by kernel_rfl, fun _ => by kernel_rfl⟩
theorem Znc:Sized Tryz.prog 26 1 false := ⟨fun _ => by kernel_rfl, fun _ => by kernel_rfl⟩
theorem ZKc:Sized Tryz.prog 28 2 true := ⟨fun _ => by kernel_rfl, fun _ => by kernel_rfl⟩
theorem Zgc:Sized Tryz.prog 29 1 false := ⟨fun _ => by kernel_rfl, fun _ => by kernel_rfl⟩
theorem Zjc:Sized Tryz.prog 31 2 true := ⟨fun _ => by kernel_rfl, fun _ => by kernel_rfl⟩
theorem Zmc:Sized Tryz.prog 38 2 true := ⟨fun _ => by kernel_rfl, fun _ => by kernel_rfl⟩
theorem ZMa:Sized Tryz.prog 4 1 false := ⟨fun _ => by kernel_rfl, fun _ => by kernel_rfl⟩
theorem ZNn:Sized Tryz.prog 40 3 true := ⟨fun _ => by kernel_rfl, fun _ => by kernel_rfl⟩
theorem ZRa:Sized Tryz.prog 42 1 false := ⟨fun _ => by kernel_rfl, fun _ => by kernel_rfl⟩
theorem ZSa:Sized Tryz.prog 44 2 true := ⟨fun _ => by kernel_rfl, fun _ => by kernel_rfl⟩
theorem ZA:Sized Tryz.prog 46 3 true := ⟨fun _ => by kernel_rfl, fun _ => by kernel_rfl⟩
theorem ZWj:Sized Tryz.prog 49 4 true := ⟨fun _ => by kernel_rfl, fun _ => by kernel_rfl⟩
theorem k_sz5:Sized Tryz.prog 5 1 false := ⟨fun _ => by kernel_rfl, fun _ => by kernel_rfl⟩
theorem Zed:Sized Tryz.prog 50 1 false := ⟨fun _ => by kernel_rfl, fun _ => by kernel_rfl⟩
theorem Zla:Sized Tryz.prog 52 3 true := ⟨fun _ => by kernel_rfl, fun _ => by kernel_rfl⟩
theorem k_sz55:Sized Tryz.prog 55 4 true := ⟨fun _ => by kernel_rfl, fun _ => by kernel_rfl⟩
theorem Zwn:Sized Tryz.prog 64 5 true := ⟨fun _ => by kernel_rfl, fun _ => by kernel_rfl⟩
theorem k_sz66:Sized Tryz.prog 66 5 true := ⟨fun _ => by kernel_rfl, fun _ => by kernel_rfl⟩
theorem ZEa:Sized Tryz.prog 9 1 false := ⟨fun _ => by kernel_rfl, fun _ => by kernel_rfl⟩
theorem k_zv102:∀ w, (zeroValue 102).run Tryz.prog w = .ok (Value.agg #[Value.bool false, Value.slice none 0 0, Value.slice none 0 0, Value.slice none 0 0]) w := fun _ => by kernel_rfl
theorem Z0j:∀ w, (zeroValue 134).run Tryz.prog w = .ok (Value.agg #[Value.string (Zm []), Value.bool false, Value.slice none 0 0, Value.slice none 0 0, Value.bool false, Value.slice none 0 0, Value.slice none 0 0]) w := fun _ => by kernel_rfl
theorem k_zv138:∀ w, (zeroValue 138).run Tryz.prog w = .ok (Value.agg #[Value.string (Zm []), Value.int IntKind.i64 0, Value.int IntKind.i64 0, Value.int IntKind.i64 0, Value.int IntKind.i64 0]) w := fun _ => by kernel_rfl
theorem Z4m:∀ w, (zeroValue 143).run Tryz.prog w = .ok (Value.agg #[Value.bool false, Value.slice none 0 0, Value.slice none 0 0, Value.bool false, Value.slice none 0 0, Value.slice none 0 0]) w := fun _ => by kernel_rfl
theorem k_zv149:∀ w, (zeroValue 149).run Tryz.prog w = .ok (Value.agg #[Value.float FloatKind.f32 0, Value.float FloatKind.f32 0]) w := fun _ => by kernel_rfl
theorem k_zv233:∀ w, (zeroValue 233).run Tryz.prog w = .ok (Value.agg #[Value.bool false, Value.slice none 0 0, Value.slice none 0 0, Value.bool false, Value.slice none 0 0, Value.slice none 0 0]) w := fun _ => by kernel_rfl
theorem k_zv243:∀ w, (zeroValue 243).run Tryz.prog w = .ok (Value.agg #[Value.pointer none, Value.slice none 0 0]) w := fun _ => by kernel_rfl
theorem k_zv255:∀ w, (zeroValue 255).run Tryz.prog w = .ok (Value.agg #[Value.int IntKind.u8 0, Value.int IntKind.u8 0, Value.int IntKind.u8 0, Value.int IntKind.u8 0, Value.int IntKind.u8 0, Value.int IntKind.u8 0, Value.int IntKind.u8 0, Value.int IntKind.u8 0, Value.int IntKind.u8 0, Value.int IntKind.u8 0, Value.int IntKind.u8 0, Value.int IntKind.u8 0, Value.int IntKind.u8 0, Value.int IntKind.u8 0, Value.int IntKind.u8 0, Value.int IntKind.u8 0, Value.int IntKind.u8 0, Value.int IntKind.u8 0, Value.int IntKind.u8 0, Value.int IntKind.u8 0]) w := fun _ => by kernel_rfl
theorem Zgi:∀ w, (zeroValue 28).run Tryz.prog w = .ok (Value.agg #[Value.string (Zm []), Value.slice none 0 0]) w := fun _ => by kernel_rfl
theorem Zhj:∀ w, (zeroValue 31).run Tryz.prog w = .ok (Value.agg #[Value.string (Zm []), Value.slice none 0 0]) w := fun _ => by kernel_rfl
theorem k_zv40:∀ w, (zeroValue 40).run Tryz.prog w = .ok (Value.agg #[Value.string (Zm []), Value.int IntKind.i64 0, Value.int IntKind.i64 0]) w := fun _ => by kernel_rfl
theorem Zbd:∀ w, (zeroValue 44).run Tryz.prog w = .ok (Value.agg #[Value.bool false, Value.slice none 0 0]) w := fun _ => by kernel_rfl
theorem ZIa:∀ w, (zeroValue 46).run Tryz.prog w = .ok (Value.agg #[Value.bool false, Value.slice none 0 0, Value.slice none 0 0]) w := fun _ => by kernel_rfl
theorem k_zv49:∀ w, (zeroValue 49).run Tryz.prog w = .ok (Value.agg #[Value.string (Zm []), Value.bool false, Value.slice none 0 0, Value.slice none 0 0]) w := fun _ => by kernel_rfl
theorem Zqd:∀ w, (zeroValue 52).run Tryz.prog w = .ok (Value.agg #[Value.bool false, Value.slice none 0 0, Value.slice none 0 0]) w := fun _ => by kernel_rfl
theorem k_zv64:∀ w, (zeroValue 64).run Tryz.prog w = .ok (Value.agg #[Value.string (Zm []), Value.bool false, Value.slice none 0 0, Value.slice none 0 0, Value.bool false]) w := fun _ => by kernel_rfl
theorem cut_w {e:World} {d:Zc} (hv:VIn d e) {E:List Value} {a:(List Int)} (F:Rep.rel (ZC (Zd .u64)) d E a) {z:(List Int)} (H:Z7i a = some z):Ret Tryz.prog 114 #[(ZC (Zd .u64)).val E] e d (fun y v'=>∃ G,y = (ZC (Zd .u64)).val G∧(ZC (Zd .u64)).rel v' G z):=by
  obtain ⟨M,N,O,rfl⟩:=ZVa F;refine ZY (K:=21) (args:=[.slice M (N) O]) hv Tryz.func114 rfl rfl zl fun f S=>?_;unfold Z7i at H;refine sr ?_;have S:=S.nilLoc 184 1;refine ov S rfl (Zra S (y:=.slice (mkA none) 0 0) rfl) fun f S=>oe (Zg fun _ P=>?_);obtain ⟨Q,R,T⟩:=Za H;refine ZR (fun f w=>∃ (B:(List Int)) (j:Option Addr) (k:Nat) (l:Nat) (m:Zc),B = Q∧Zc.le d m∧St 21 e d [(0,.slice j (k) l)] [] m f w∧Rep.rel (ZC (Zd .u64)) m [.slice j (k) l] B) (fun _ U=>?_) ?_
  · have H:=R;refine wp_block ?_;obtain ⟨am,V,W⟩:=Za H;have S:=S.reorder (ℓ':=[]) [] rfl (by decide);refine Zua V (fun X f w=>∃ (n:(List Int)) (o:Option Addr) (q:Nat) (s:Nat) (g:Zc),n = X∧Zc.le d g∧St 21 e d [(0,.slice o (q) s)] [] g f w∧Rep.rel (ZC (Zd .u64)) g [.slice o (q) s] n) ⟨_,_,_,_,_,rfl,(leR _),(S.fr' rfl),F⟩ ?_;rintro _ f w st ⟨n,o,q,s,g,hq,I,S,c⟩ H an Y Z;subst hq;refine Zg fun _ aa=>Zg fun _ ab=>?_;obtain ⟨ac,ad,ae⟩:=Za H;refine ZR (fun f w=>∃ (u:Bool) (C:Zc),u = ac∧Zc.le g C∧St 21 e d [(0,.slice o (q) s),(14,.bool (u))] [] C f w) (fun _ J=>?_) ?_
    · have H:=ad;rcases Zx (decide ((0:Int) < (n.length:Int))) with h | h
      · have H:=Zy H h;obtain ⟨ao,af,H⟩:=Za H;obtain ⟨ap,D,H⟩:=Za H;refine Zo (mv S rfl fun f S=>ov S rfl (ZL S (Zv c) rfl rfl ZX) fun f S=>ov S rfl (Zi S rfl rfl Zxa) fun f S=>?_);have S:=S.bool (t:=5) rfl h;refine mv S rfl fun f S=>opy S rfl rfl rfl rfl (Zp S rfl) fun f S=>opy S rfl rfl rfl rfl (Zp S rfl) fun f S=>opy S rfl rfl rfl rfl (ZL S (Zv c) rfl rfl ZX) fun f S=>opy S rfl rfl rfl rfl (Zi S rfl rfl (ZKa af)) fun f S=>?_;obtain ⟨_,aq,ar,au,rfl,ag,ah⟩:=Zma c (Zk D).2.1;obtain ⟨rfl,av⟩:=ah;refine opy S rfl rfl rfl rfl (ZO S rfl rfl ZX (Zk D).1 (ltI (Zv c) (Zk D).2.2.1)) fun f S=>opy S rfl rfl rfl rfl (Z8 S rfl ZGa (S.view ag)) fun f S=>opy S rfl rfl rfl rfl (Zi S rfl rfl ZTa) fun f S=>ov S rfl (ZJ S (b:=true) rfl rfl) fun f S=>Zn ?_;obtain rfl:=Ze H;refine Zb (J _ _ ⟨_,_,rfl,(leR _),(S.fr' rfl)⟩)
      have H:=Zw H h;refine Zo (mv S rfl fun f S=>ov S rfl (ZL S (Zv c) rfl rfl ZX) fun f S=>ov S rfl (Zi S rfl rfl Zxa) fun f S=>?_);have S:=S.bool (t:=5) rfl h;refine mv S rfl fun f S=>opn S rfl rfl rfl rfl fun f S=>opn S rfl rfl rfl rfl fun f S=>opn S rfl rfl rfl rfl fun f S=>opn S rfl rfl rfl rfl fun f S=>opn S rfl rfl rfl rfl fun f S=>opn S rfl rfl rfl rfl fun f S=>opn S rfl rfl rfl rfl fun f S=>ov S rfl (ZJ S (b:=false) rfl rfl) fun f S=>Zn ?_;obtain rfl:=Ze H;refine Zb (J _ _ ⟨_,_,rfl,(leR _),(S.fr' rfl)⟩)
    rintro f w ⟨u,C,hq,v,S⟩;subst hq;have H:=ae;refine Zb (ab _ _ ?_);rcases Zx (u) with i | i
    · have H:=Zy H i;refine ZG S rfl i (wp_skip (Zb (aa _ _ (wp_block ?_))));obtain ⟨ai,aj,H⟩:=Za H;obtain ⟨aw,x,H⟩:=Za H;refine Zo (mv S rfl fun f S=>mv S rfl fun f S=>?_);have c:=Zq v c;refine ov S rfl (ZL S (Zv c) rfl rfl ZX) fun f S=>ov S rfl (Zi S rfl rfl (ZKa aj)) fun f S=>?_;obtain ⟨ax,ay,ak,L⟩:=ZCi S (A:=(Zd .u64)) (p:=(0:Int)) (r:=ai) ZX c (Z4a x).1 (Z4a x).2.1 (Z4a x).2.2.1;rw [← (Z4a x).2.2.2.1] at L;refine ov S rfl (ak rfl (.inl ⟨rfl,rfl⟩) (.inr ⟨_,_,rfl,rfl⟩)) fun f S=>mw S rfl fun f S=>Zn (Zka ?_);obtain rfl:=Ze H;refine Y _ rfl _ _ ⟨_,_,_,_,_,rfl,(leT I v),(S.fr' rfl),L⟩
    have H:=Zw H i;refine ZF S rfl i (wp_exit (ZS ?_));obtain rfl:=Ze H;have hq:=Z _ rfl;subst hq;have H:=W;refine ZS (Zpa ?_);obtain rfl:=Ze H;have c:=Zq v c;refine Zb (U _ _ ⟨_,_,_,_,_,rfl,(leT (leT (leR _) I) v),(S.fr' rfl),c⟩)
  rintro f w ⟨B,j,k,l,m,hq,az,S,al⟩;subst hq;have H:=T;refine Zb (P _ _ (sr (mv S rfl fun f S=>mw S rfl fun f S=>oe (wp_ret ?_))));obtain rfl:=Ze H;refine ZE S (ZN rfl (ZD S rfl)) ⟨[.slice j (k) l],rfl,al⟩
theorem ZDd {d:World} {b:Zc} (hv:VIn b d) {e:List Value} {a:(List Int)} (c:Rep.rel (ZC (Zd .u64)) b e a) {z:Nat} (hm:ZHb a = some z) :
    Ret Tryz.prog 114 #[(ZC (Zd .u64)).val e] d b (fun y v'=>∃ f,y = ZK.val f∧ZK.rel v' f z) :=
  by cases hm;exact cut_w hv c (cut_eq (Zok c).1 (Zok c).2)
theorem word_w {b:World} {a:Zc} (hv:VIn a b) {c:List Value} {n:Int} (h:Rep.rel (Zd .u64) a c n) {z:Nat} (H:ZFi n = some z):Ret Tryz.prog 78 #[(Zd .u64).val c] b a (fun y v'=>∃ d,y = ZK.val d∧ZK.rel v' d z):=by
  obtain ⟨rfl,j⟩:=h;refine ZY (K:=6) (args:=[.int .u64 (n)]) hv Tryz.func78 rfl rfl zl fun f S=>?_;unfold ZFi at H;refine sr (mw S rfl fun f S=>oe (Zg fun _ k=>?_));obtain ⟨u,m,H⟩:=Za H;refine Zo (mv S rfl fun f S=>?_);obtain ⟨e,w,o,S⟩:=Z9a S (n:=1) (cs:=[.int .u64 (n)]) (vals:=[(0,.int .u64 (n))]) (sz:=1) rfl (by decide) (ZVb ZNc (x:=.int .u64 (n)) (cs:=[.int .u64 (n)]) rfl rfl (by decide));have p:Rep.rels (Zd .u64) a [.int .u64 (n)] [n]:=(Zjb (Zz j) ZFa);refine Zya wn rfl zl (o rfl) S fun f S=>?_;obtain ⟨v,B,S,q⟩:=S.pubSlice (i:=0) (A:=(Zd .u64)) (l:=[n]) (ℓ':=[]) rfl rfl rfl p rfl;refine opc S rfl (Zs S [.slice (mkA (some e)) (1) 1] Zxd rfl rfl) (ZDd S.vin (show Rep.rel (ZC (Zd .u64)) _ [.slice (mkA (some e)) (1) 1] ([n]) from q) m) ?_;rintro _ C f w D ⟨E,rfl,g⟩ S;obtain ⟨r,s,t,rfl⟩:=Zfa g;refine mw S rfl fun f S=>Zn (Zb (k _ _ (wp_ret ?_)));obtain rfl:=Ze H;refine ZE S (ZN rfl (ZD S rfl)) ⟨[.slice r s t],rfl,g⟩
theorem ZHf {b:World} {a:Zc} (hv:VIn a b) {c:List Value} {n:Int} (e:Rep.rel (Zd .u64) a c n) {z:Nat} (hm:Z0c n = some z) :
    Ret Tryz.prog 78 #[(Zd .u64).val c] b a (fun y v'=>∃ d,y = ZK.val d∧ZK.rel v' d z) :=
  word_w hv e (Zcr hm)
theorem of_w {k:World} {j:Zc} (hv:VIn j k) {l:List Value} {n:Int} (q:Rep.rel (Zd .i64) j l n) {z:Int} (H:of_m n = some z):Ret Tryz.prog 92 #[(Zd .i64).val l] k j (fun y v'=>∃ m,y = Zoa.val m∧Zoa.rel v' m z):=by
  obtain ⟨rfl,G⟩:=q;refine ZY (K:=14) (args:=[.int .i64 (n)]) hv Tryz.func92 rfl rfl zl fun f S=>?_;unfold of_m at H;refine sr (Zea S wn rfl zl (cs:=[.bool false,.slice none 0 0]) (Z0 Zbd) fun I f w S=>oe (Zg fun _ r=>sr (mv S rfl fun f S=>ov S rfl (Zi S rfl rfl ZU) fun f S=>oe ?_)));rcases Zx (decide (n < (0:Int))) with a | a
  · have H:=Zy H a;refine ZG S rfl a (Zg fun _ t=>?_);obtain ⟨J,u,H⟩:=Za H;refine Zo (mv S rfl fun f S=>ov S rfl (ZPa S rfl (Z9i _)) fun f S=>ov S rfl (ZYi S rfl) fun f S=>opc S rfl (Zs S [.int .u64 (IntKind.u64.wrap (-(IntKind.u64.wrap n)))] Zwf rfl rfl) (ZHf S.vin (show Rep.rel (Zd .u64) _ [.int .u64 (IntKind.u64.wrap (-(IntKind.u64.wrap n)))] (IntKind.u64.wrap (-(IntKind.u64.wrap n))) from (Zz (Zza _ _))) u) ?_);rintro _ L f w M ⟨N,rfl,o⟩ S;obtain ⟨b,c,d,rfl⟩:=Zfa o;refine ov S rfl (ZLa S [(0,.bool (true)),(1,.slice b c d)] rfl (z:=.agg #[.bool (true),.slice b c d]) (by kernel_rfl)) fun f S=>?_;obtain ⟨w,v,S⟩:=sbp S [.bool (true),.slice b c d] ZSa 0 0 rfl;refine Z3 wn rfl (v rfl rfl) (Zn (Zb (t _ _ (wp_ret (ZB ?_)))));obtain ⟨O,x,H⟩:=Za H;have A:=ZCj (s:=true) o x;obtain rfl:=Ze H;refine ZE S (ZN rfl (Zrc S rfl ZSa rfl (S.box (i:=0) rfl 0 [.bool (true),.slice b c d] rfl))) ⟨[.bool (true),.slice b c d],rfl,A⟩
  have H:=Zw H a;refine ZF S rfl a (wp_skip (Zb (r _ _ (Zg fun _ B=>?_))));obtain ⟨P,C,H⟩:=Za H;refine Zo (mv S rfl fun f S=>ov S rfl (ZPa S rfl (Z9i _)) fun f S=>opc S rfl (Zs S [.int .u64 (IntKind.u64.wrap n)] Zwf rfl rfl) (ZHf S.vin (show Rep.rel (Zd .u64) _ [.int .u64 (IntKind.u64.wrap n)] (IntKind.u64.wrap n) from (Zz (Zza _ _))) C) ?_);rintro _ Q f w R ⟨T,rfl,p⟩ S;obtain ⟨e,g,h,rfl⟩:=Zfa p;refine ov S rfl (ZLa S [(0,.bool (false)),(1,.slice e g h)] rfl (z:=.agg #[.bool (false),.slice e g h]) (by kernel_rfl)) fun f S=>?_;obtain ⟨w,D,S⟩:=sbp S [.bool (false),.slice e g h] ZSa 0 0 rfl;refine Z3 wn rfl (D rfl rfl) (Zn (Zb (B _ _ (wp_ret ?_))));obtain ⟨U,E,H⟩:=Za H;have F:=ZCj (s:=false) p E;obtain rfl:=Ze H;refine ZE S (ZN rfl (Zrc S rfl ZSa rfl (S.box (i:=0) rfl 0 [.bool (false),.slice e g h] rfl))) ⟨[.bool (false),.slice e g h],rfl,F⟩
theorem of_c {b:World} {a:Zc} (hv:VIn a b) {c:List Value} {n:Int} (d:Rep.rel (Zd .i64) a c n) {z:Int} (hm:ofF n = some z) :
    Ret Tryz.prog 92 #[(Zd .i64).val c] b a (fun y v'=>∃ e,y = Zoa.val e∧Zoa.rel v' e z) :=
  of_w hv d (ofF_eq d.2 hm)
theorem qint_w {g:World} {e:Zc} (hv:VIn e g) {h:List Value} {n:Int} (k:Rep.rel (Zd .i64) e h n) {z:Rat} (H:Zdi n = some z):Ret Tryz.prog 38 #[(Zd .i64).val h] g e (fun y v'=>∃ i,y = Zf.val i∧Zf.rel v' i z):=by
  obtain ⟨rfl,l⟩:=k;refine ZY (K:=6) (args:=[.int .i64 (n)]) hv Tryz.func38 rfl rfl zl fun f S=>?_;unfold Zdi at H;refine sr (Zea S wn rfl zl (cs:=[.bool false,.slice none 0 0,.slice none 0 0]) (Z0 ZIa) fun s f w S=>oe (Zg fun _ m=>?_));obtain ⟨t,o,H⟩:=Za H;refine Zo (mv S rfl fun f S=>opc S rfl (Zs S [.int .i64 (n)] ZLh rfl rfl) (of_c S.vin (show Rep.rel (Zd .i64) _ [.int .i64 (n)] n from (Zz l)) o) ?_);rintro _ u f w v ⟨x,rfl,j⟩ S;obtain ⟨a,b,c,d,rfl⟩:=Z7a j;refine ov S rfl (ZLa S [(0,.agg #[.bool a,.slice b c d])] rfl (z:=.agg #[.bool a,.slice b c d,.slice none 0 0]) (by kernel_rfl)) fun f S=>?_;obtain ⟨w,p,S⟩:=sbp S [.bool a,.slice b c d,.slice none 0 0] ZA 0 0 rfl;refine Z3 wn rfl (p rfl rfl) (Zn (Zb (m _ _ (wp_ret ?_))));obtain ⟨A,q,H⟩:=Za H;have r:=Zkj j (ZZe _) q;obtain rfl:=Ze H;refine ZE S (ZN rfl (ZDa S rfl ZA 0 rfl rfl)) ⟨[.bool a,.slice b c d,.slice none 0 0],rfl,r⟩
theorem ZQe {b:World} {a:Zc} (hv:VIn a b) {c:List Value} {n:Int} (e:Rep.rel (Zd .i64) a c n) {z:Rat} (hm:Ztd n = some z) :
    Ret Tryz.prog 38 #[(Zd .i64).val c] b a (fun y v'=>∃ d,y = Zf.val d∧Zf.rel v' d z) :=
  qint_w hv e (Z0q hm)
theorem len64_w {b:World} {a:Zc} (hv:VIn a b) {q:List Value} {x:Int} (J:Rep.rel (Zd .u64) a q x) {z:Int} (H:Zjh x = some z):Ret Tryz.prog 148 #[(Zd .u64).val q] b a (fun y v'=>∃ r,y = (Zd .i64).val r∧(Zd .i64).rel v' r z):=by
  obtain ⟨rfl,s⟩:=J;refine ZY (K:=25) (args:=[.int .u64 (x)]) hv Tryz.func148 rfl rfl zl fun f S=>?_;unfold Zjh at H;refine sr (mw S rfl fun f S=>oe (Zg fun _ L=>sr (mv S rfl fun f S=>ov S rfl (Zi S rfl rfl ZUa) fun f S=>oe ?_)));obtain ⟨M,N,O⟩:=Za H;refine ZR (fun f w=>∃ (c:Int) (i:Int) (j:Zc),(c,i) = M∧Zc.le a j∧St 25 b a [(0,.int .u64 (c)),(2,.int .i64 (i))] [] j f w∧inR .u64 c∧inR .i64 i) (fun _ t=>?_) ?_
  · have H:=N;rcases Zx (decide ((4294967296:Int)≤x)) with d | d
    · have H:=Zy H d;refine ZG S rfl d (Zg fun _ P=>?_);obtain ⟨ag,u,H⟩:=Za H;refine Zo (mv S rfl fun f S=>ov S rfl (Zi S rfl rfl (ZIb u)) fun f S=>mw S rfl fun f S=>Zn (Zb (P _ _ (Zo (mw S rfl fun f S=>Zn ?_)))));obtain rfl:=Ze H;refine Zb (t _ _ ⟨_,_,_,rfl,(leR _),(S.fr' rfl),(ZHd s u),(by decide)⟩)
    have H:=Zw H d;refine ZF S rfl d (wp_skip ?_);obtain rfl:=Ze H;refine Zb (t _ _ ⟨_,_,_,rfl,(leR _),(S.fr' rfl),s,(by decide)⟩)
  rintro f w ⟨c,i,j,hq,ah,S,v,Q⟩;subst hq;have H:=O;refine Zb (L _ _ (Zg fun _ R=>sr (mv S rfl fun f S=>ov S rfl (Zi S rfl rfl ZUa) fun f S=>oe ?_)));obtain ⟨T,U,V⟩:=Za H;refine ZR (fun f w=>∃ (e:Int) (k:Int) (m:Zc),(e,k) = T∧Zc.le j m∧St 25 b a [(0,.int .u64 (e)),(2,.int .i64 (k))] [] m f w∧inR .u64 e∧inR .i64 k) (fun _ A=>?_) ?_
  · have H:=U;rcases Zx (decide ((65536:Int)≤c)) with g | g
    · have H:=Zy H g;refine ZG S rfl g (Zg fun _ W=>?_);obtain ⟨ai,B,H⟩:=Za H;refine Zo (mv S rfl fun f S=>ov S rfl (Zi S rfl rfl (ZIb B)) fun f S=>mw S rfl fun f S=>Zn (Zb (W _ _ ?_)));obtain ⟨aj,C,H⟩:=Za H;refine Zo (mv S rfl fun f S=>ov S rfl (Zi S rfl rfl (Zca C)) fun f S=>mw S rfl fun f S=>Zn ?_);obtain rfl:=Ze H;refine Zb (A _ _ ⟨_,_,_,rfl,(leR _),(S.fr' rfl),(ZHd v B),(Zba C).2⟩)
    have H:=Zw H g;refine ZF S rfl g (wp_skip ?_);obtain rfl:=Ze H;refine Zb (A _ _ ⟨_,_,_,rfl,(leR _),(S.fr' rfl),v,Q⟩)
  rintro f w ⟨e,k,m,hq,ak,S,D,X⟩;subst hq;have H:=V;refine Zb (R _ _ (Zg fun _ Y=>sr (mv S rfl fun f S=>ov S rfl (Zi S rfl rfl ZUa) fun f S=>oe ?_)));obtain ⟨Z,aa,ab⟩:=Za H;refine ZR (fun f w=>∃ (n:Int) (o:Int) (p:Zc),(n,o) = Z∧Zc.le m p∧St 25 b a [(0,.int .u64 (n)),(2,.int .i64 (o))] [] p f w∧inR .u64 n∧inR .i64 o) (fun _ E=>?_) ?_
  · have H:=aa;rcases Zx (decide ((256:Int)≤e)) with h | h
    · have H:=Zy H h;refine ZG S rfl h (Zg fun _ ac=>?_);obtain ⟨al,F,H⟩:=Za H;refine Zo (mv S rfl fun f S=>ov S rfl (Zi S rfl rfl (ZIb F)) fun f S=>mw S rfl fun f S=>Zn (Zb (ac _ _ ?_)));obtain ⟨am,G,H⟩:=Za H;refine Zo (mv S rfl fun f S=>ov S rfl (Zi S rfl rfl (Zca G)) fun f S=>mw S rfl fun f S=>Zn ?_);obtain rfl:=Ze H;refine Zb (E _ _ ⟨_,_,_,rfl,(leR _),(S.fr' rfl),(ZHd D F),(Zba G).2⟩)
    have H:=Zw H h;refine ZF S rfl h (wp_skip ?_);obtain rfl:=Ze H;refine Zb (E _ _ ⟨_,_,_,rfl,(leR _),(S.fr' rfl),D,X⟩)
  rintro f w ⟨n,o,p,hq,an,S,ao,ap⟩;subst hq;have H:=ab;refine Zb (Y _ _ (Zg fun _ ad=>?_));obtain ⟨aq,ae,H⟩:=Za H;obtain ⟨af,I,H⟩:=Za H;refine Zo (mv S rfl fun f S=>mv S rfl fun f S=>ov S rfl (ZPa S rfl (Z1m _)) fun f S=>ov S rfl (Zkb S (l:=([0,1,2,2,3,3,3,3,4,4,4,4,4,4,4,4,5,5,5,5,5,5,5,5,5,5,5,5,5,5,5,5,6,6,6,6,6,6,6,6,6,6,6,6,6,6,6,6,6,6,6,6,6,6,6,6,6,6,6,6,6,6,6,6,7,7,7,7,7,7,7,7,7,7,7,7,7,7,7,7,7,7,7,7,7,7,7,7,7,7,7,7,7,7,7,7,7,7,7,7,7,7,7,7,7,7,7,7,7,7,7,7,7,7,7,7,7,7,7,7,7,7,7,7,7,7,7,7,8,8,8,8,8,8,8,8,8,8,8,8,8,8,8,8,8,8,8,8,8,8,8,8,8,8,8,8,8,8,8,8,8,8,8,8,8,8,8,8,8,8,8,8,8,8,8,8,8,8,8,8,8,8,8,8,8,8,8,8,8,8,8,8,8,8,8,8,8,8,8,8,8,8,8,8,8,8,8,8,8,8,8,8,8,8,8,8,8,8,8,8,8,8,8,8,8,8,8,8,8,8,8,8,8,8,8,8,8,8,8,8,8,8,8,8,8,8,8,8,8,8,8,8,8,8,8,8]:List UInt8)) (by kernel_rfl) rfl Tryz.underlying9 ae) fun f S=>ov S rfl (ZPa S rfl (k_cv5_3 _)) fun f S=>ov S rfl (Zi S rfl rfl (Zca I)) fun f S=>mw S rfl fun f S=>Zn (Zb (ad _ _ (wp_ret ?_))));obtain rfl:=Ze H;refine ZE S (ZN rfl (ZD S rfl)) ⟨[.int .i64 (af)],rfl,(Zz (Zba I).2)⟩
theorem len64_c {b:World} {a:Zc} (hv:VIn a b) {c:List Value} {x:Int} (e:Rep.rel (Zd .u64) a c x) {z:Int} (hm:Zwh x = some z) :
    Ret Tryz.prog 148 #[(Zd .u64).val c] b a (fun y v'=>∃ d,y = (Zd .i64).val d∧(Zd .i64).rel v' d z) :=
  len64_w hv e (ZFp hm)
theorem lz64_w {b:World} {a:Zc} (hv:VIn a b) {c:List Value} {x:Int} (g:Rep.rel (Zd .u64) a c x) {z:Int} (H:Z5h x = some z):Ret Tryz.prog 136 #[(Zd .u64).val c] b a (fun y v'=>∃ d,y = (Zd .i64).val d∧(Zd .i64).rel v' d z):=by
  obtain ⟨rfl,h⟩:=g;refine ZY (K:=6) (args:=[.int .u64 (x)]) hv Tryz.func136 rfl rfl zl fun f S=>?_;unfold Z5h at H;refine sr (mw S rfl fun f S=>oe (Zg fun _ i=>?_));obtain ⟨m,j,H⟩:=Za H;obtain ⟨k,e,H⟩:=Za H;refine Zo (mv S rfl fun f S=>opc S rfl (Zs S [.int .u64 (x)] k_en148 rfl rfl) (len64_c S.vin (show Rep.rel (Zd .u64) _ [.int .u64 (x)] x from (Zz h)) j) ?_);rintro _ n f w o ⟨p,rfl,l⟩ S;obtain ⟨rfl,q⟩:=l;refine ov S rfl (Zi S rfl rfl (ZKa e)) fun f S=>mw S rfl fun f S=>Zn (Zb (i _ _ (wp_ret ?_)));obtain rfl:=Ze H;refine ZE S (ZN rfl (ZD S rfl)) ⟨[.int .i64 (k)],rfl,(Zz (Zba e).2)⟩
theorem Zxn {b:World} {a:Zc} (hv:VIn a b) {c:List Value} {x:Int} (e:Rep.rel (Zd .u64) a c x) {z:Int} (hm:Zie x = some z) :
    Ret Tryz.prog 136 #[(Zd .u64).val c] b a (fun y v'=>∃ d,y = (Zd .i64).val d∧(Zd .i64).rel v' d z) :=
  lz64_w hv e (Z0n hm)
theorem div64_w {e:World} {c:Zc} (hv:VIn c e) {X:List Value} {hi:Int} (p0:Rep.rel (Zd .u64) c X hi) {Y:List Value} {lo:Int} (p1:Rep.rel (Zd .u64) c Y lo) {Z:List Value} {y:Int} (p2:Rep.rel (Zd .u64) c Z y) {z:Int×Int} (H:Zjg hi lo y = some z):Ret Tryz.prog 142 #[(Zd .u64).val X,(Zd .u64).val Y,(Zd .u64).val Z] e c (fun y v'=>∃ r0 M,y = .tuple #[(Zd .u64).val r0,(Zd .u64).val M]∧(Zd .u64).rel v' r0 z.1∧(Zd .u64).rel v' M z.2):=by
  obtain ⟨rfl,M⟩:=p0;obtain ⟨rfl,r2⟩:=p1;obtain ⟨rfl,r3⟩:=p2;refine ZY (K:=135) (args:=[.int .u64 (hi),.int .u64 (lo),.int .u64 (y)]) hv Tryz.func142 rfl rfl zl fun f S=>?_;unfold Zjg at H;refine sr (mw S rfl fun f S=>mw S rfl fun f S=>oe (Zg fun _ an=>sr (mv S rfl fun f S=>ov S rfl (Zi S rfl rfl ZTa) fun f S=>oe ?_)));rcases Zx (y == ((0:Int))) with q | q
  · have H:=Zy H q;refine ZG S rfl q ?_
    cases H
  have H:=Zw H q;refine ZF S rfl q (wp_skip (Zb (an _ _ (Zg fun _ ao=>sr (mv S rfl fun f S=>mv S rfl fun f S=>ov S rfl (Zi S rfl rfl Zub) fun f S=>oe ?_)))));rcases Zx (decide (y≤hi)) with r | r
  · have H:=Zy H r;refine ZG S rfl r ?_
    cases H
  have H:=Zw H r;refine ZF S rfl r (wp_skip (Zb (ao _ _ (Zg fun _ ap=>sr (mv S rfl fun f S=>ov S rfl (Zi S rfl rfl ZTa) fun f S=>oe ?_)))));rcases Zx (hi == ((0:Int))) with s | s
  · have H:=Zy H s;refine ZG S rfl s (Zg fun _ aq=>?_);obtain ⟨ar,aa,H⟩:=Za H;obtain ⟨au,N,H⟩:=Za H;refine Zia (fl:=#[true,true,true,true,true,true,false,false]) Zha (by kernel_rfl) S ?_;intro ops O F w S;refine rfa O F 0 rfl rfl S (Zp S rfl) fun f S=>rfa O F 1 rfl rfl S (Zp S rfl) fun f S=>rfa O F 2 rfl rfl S (Zi S rfl rfl (Zcc aa)) fun f S=>rfa O F 3 rfl rfl S (Zp S rfl) fun f S=>rfa O F 4 rfl rfl S (Zp S rfl) fun f S=>rfa O F 5 rfl rfl S (Zi S rfl rfl (ZLc N)) fun f S=>go1 O F 6 (nva [0,1,2] [3,4,5] O rfl rfl S (Zra S rfl) fun f S=>⟨(py S rfl rfl (Zp S rfl) (py S rfl rfl (Zp S rfl) (py S rfl rfl (Zi S rfl rfl (ZLc N)) Zu))),go1 O F 7 (nva [0,1,2,3,4,5,6] [] O rfl rfl S (Zra S rfl) fun f S=>⟨Zu,Z6 O F (Zb (aq _ _ ?_))⟩)⟩);refine wp_ret (ZB ?_);obtain rfl:=Ze H;refine ZE S (ZCa rfl (ZD S rfl) (ZD S rfl)) ⟨[.int .u64 (ar)],[.int .u64 (au)],rfl,(Zz (Z6e aa)),(Zz (ZBk r2 N))⟩
  have H:=Zw H s;refine ZF S rfl s (wp_skip (Zb (ap _ _ (Zg fun _ av=>?_))));obtain ⟨h,aw,H⟩:=Za H;refine Zo (mv S rfl fun f S=>opc S rfl (Zs S [.int .u64 (y)] Zrn rfl rfl) (Zxn S.vin (show Rep.rel (Zd .u64) _ [.int .u64 (y)] y from (Zz r3)) aw) ?_);rintro _ ab f w bd ⟨be,rfl,ax⟩ S;obtain ⟨rfl,bf⟩:=ax;refine ov S rfl (ZPa S rfl (ZYk _)) fun f S=>mw S rfl fun f S=>Zn (Zb (av _ _ (Zg fun _ ay=>?_)));obtain ⟨a,az,H⟩:=Za H;refine Zo (mv S rfl fun f S=>mv S rfl fun f S=>ov S rfl (Zi S rfl rfl (ZNd az)) fun f S=>mw S rfl fun f S=>Zn (Zb (ay _ _ (Zg fun _ aA=>?_))));obtain ⟨g,aB,H⟩:=Za H;refine Zo (mv S rfl fun f S=>ov S rfl (Zi S rfl rfl (ZIb aB)) fun f S=>mw S rfl fun f S=>Zn (Zb (aA _ _ (sr (mv S rfl fun f S=>ov S rfl (Zi S rfl rfl ZWe) fun f S=>mw S rfl fun f S=>oe (Zg fun _ aC=>?_))))));obtain ⟨i,aD,H⟩:=Za H;obtain ⟨j,aE,H⟩:=Za H;refine Zo (mv S rfl fun f S=>mv S rfl fun f S=>ov S rfl (Zi S rfl rfl (ZNd aD)) fun f S=>mv S rfl fun f S=>mv S rfl fun f S=>ov S rfl (Zi S rfl rfl ZCd) fun f S=>ov S rfl (Zi S rfl rfl (ZIb aE)) fun f S=>ov S rfl (Zi S rfl rfl ZOd) fun f S=>mw S rfl fun f S=>Zn ?_);have S:=S.fr' (σ':=[(1,.int .u64 (lo)),(2,.int .u64 (a)),(8,.int .u64 (IntKind.u64.wrap h)),(9,.int .u64 (g)),(10,.int .u64 (ZZa .u64 a ((4294967295:Int)))),(11,.int .u64 (orI .u64 i j))]) rfl
  refine Zb (aC _ _ (Zg fun _ aF=>?_));obtain ⟨k,aG,H⟩:=Za H;refine Zo (mv S rfl fun f S=>mv S rfl fun f S=>ov S rfl (Zi S rfl rfl (ZNd aG)) fun f S=>mw S rfl fun f S=>Zn (Zb (aF _ _ (Zg fun _ aH=>?_))));obtain ⟨l,aI,H⟩:=Za H;refine Zo (mv S rfl fun f S=>ov S rfl (Zi S rfl rfl (ZIb aI)) fun f S=>mw S rfl fun f S=>Zn (Zb (aH _ _ (sr (mv S rfl fun f S=>ov S rfl (Zi S rfl rfl ZWe) fun f S=>mw S rfl fun f S=>oe (Zg fun _ aJ=>?_))))));obtain ⟨bg,ac,H⟩:=Za H;refine Zo (mv S rfl fun f S=>mv S rfl fun f S=>ov S rfl (Zi S rfl rfl (Zcc ac)) fun f S=>mw S rfl fun f S=>Zn (Zb (aJ _ _ (sr (mv S rfl fun f S=>mv S rfl fun f S=>mv S rfl fun f S=>ov S rfl (Zi S rfl rfl Zbc) fun f S=>ov S rfl (Zi S rfl rfl ZCd) fun f S=>mw S rfl fun f S=>?_)))));refine oe (Zg fun _ aK=>?_);obtain ⟨aL,aM,aN⟩:=Za H;refine ZR (fun f w=>∃ (d:Int) (u:Zc),d = aL∧Zc.le ab u∧St 135 e c [(2,.int .u64 (a)),(8,.int .u64 (IntKind.u64.wrap h)),(9,.int .u64 (g)),(10,.int .u64 (ZZa .u64 a ((4294967295:Int)))),(11,.int .u64 (orI .u64 i j)),(13,.int .u64 (l)),(14,.int .u64 (ZZa .u64 k ((4294967295:Int)))),(15,.int .u64 (d))] [] u f w∧inR .u64 d) (fun _ ad=>?_) ?_
  · have H:=aM;refine wp_block ?_;obtain ⟨bh,aO,ae⟩:=Za H;refine Zua aO (fun aP f w=>∃ (m:Int) (n:Int) (G:Zc),(m,n) = aP∧Zc.le ab G∧St 135 e c [(2,.int .u64 (a)),(8,.int .u64 (IntKind.u64.wrap h)),(9,.int .u64 (g)),(10,.int .u64 (ZZa .u64 a ((4294967295:Int)))),(11,.int .u64 (orI .u64 i j)),(13,.int .u64 (l)),(14,.int .u64 (ZZa .u64 k ((4294967295:Int)))),(15,.int .u64 (m)),(16,.int .u64 (n))] [] G f w∧inR .u64 m∧inR .u64 n) ⟨_,_,_,rfl,(leR _),(S.fr' rfl),(Z6e ac),(Zza _ _)⟩ ?_;rintro _ f w st ⟨m,n,G,hq,P,S,aQ,bi⟩ H bj aR af;subst hq;refine Zg fun _ aS=>Zg fun _ aT=>?_;obtain ⟨aU,aV,aW⟩:=Za H;refine ZR (fun f w=>∃ (I:Bool) (Q:Zc),I = aU∧Zc.le G Q∧St 135 e c [(2,.int .u64 (a)),(8,.int .u64 (IntKind.u64.wrap h)),(9,.int .u64 (g)),(10,.int .u64 (ZZa .u64 a ((4294967295:Int)))),(11,.int .u64 (orI .u64 i j)),(13,.int .u64 (l)),(14,.int .u64 (ZZa .u64 k ((4294967295:Int)))),(15,.int .u64 (m)),(16,.int .u64 (n)),(78,.bool (I))] [] Q f w) (fun _ ag=>?_) ?_
    · have H:=aV;rcases Zx (decide ((4294967296:Int)≤m)) with v | v
      · have H:=Zy H v;refine Zo (mv S rfl fun f S=>ov S rfl (Zi S rfl rfl ZUa) fun f S=>?_);have S:=S.bool (t:=68) rfl v;refine mv S rfl fun f S=>opn S rfl rfl rfl rfl fun f S=>opn S rfl rfl rfl rfl fun f S=>opn S rfl rfl rfl rfl fun f S=>opn S rfl rfl rfl rfl fun f S=>opn S rfl rfl rfl rfl fun f S=>opn S rfl rfl rfl rfl fun f S=>opn S rfl rfl rfl rfl fun f S=>opn S rfl rfl rfl rfl fun f S=>ov S rfl (ZJ S (b:=true) rfl rfl) fun f S=>Zn ?_;obtain rfl:=Ze H;refine Zb (ag _ _ ⟨_,_,rfl,(leR _),(S.fr' rfl)⟩)
      have H:=Zw H v;refine Zo (mv S rfl fun f S=>ov S rfl (Zi S rfl rfl ZUa) fun f S=>?_);have S:=S.bool (t:=68) rfl v;refine mv S rfl fun f S=>opy S rfl rfl rfl rfl (Zp S rfl) fun f S=>opy S rfl rfl rfl rfl (Zp S rfl) fun f S=>opy S rfl rfl rfl rfl (Zi S rfl rfl Zbc) fun f S=>opy S rfl rfl rfl rfl (Zp S rfl) fun f S=>opy S rfl rfl rfl rfl (Zi S rfl rfl Zbc) fun f S=>opy S rfl rfl rfl rfl (Zp S rfl) fun f S=>opy S rfl rfl rfl rfl (Zi S rfl rfl ZRb) fun f S=>opy S rfl rfl rfl rfl (Zi S rfl rfl Zxa) fun f S=>ov S rfl (ZJ S (b:=false) rfl rfl) fun f S=>Zn ?_;obtain rfl:=Ze H;refine Zb (ag _ _ ⟨_,_,rfl,(leR _),(S.fr' rfl)⟩)
    rintro f w ⟨I,Q,hq,R,S⟩;subst hq;have H:=aW;refine Zb (aT _ _ ?_);rcases Zx (I) with x | x
    · have H:=Zy H x;refine ZG S rfl x (wp_skip (Zb (aS _ _ (wp_block (sr (mv S rfl fun f S=>ov S rfl (Zi S rfl rfl ZCd) fun f S=>mw S rfl fun f S=>oe (sr (mv S rfl fun f S=>mv S rfl fun f S=>ov S rfl (Zi S rfl rfl ZRb) fun f S=>mw S rfl fun f S=>?_))))))));refine oe (sr (mv S rfl fun f S=>ov S rfl (Zi S rfl rfl ZUa) fun f S=>oe ?_));rcases Zx (decide ((4294967296:Int)≤IntKind.u64.wrap (n+g))) with A | A
      · have H:=Zy H A;refine ZG S rfl A (wp_exit (Zij rfl ?_));obtain rfl:=Ze H;have hq:=af _ rfl;subst hq;have H:=ae;refine ZS (Zpa ?_);obtain rfl:=Ze H;refine Zb (ad _ _ ⟨_,_,rfl,(leT (leT (leR _) P) R),(S.fr' rfl),(Zza _ _)⟩)
      have H:=Zw H A;refine ZF S rfl A (wp_skip (Zka ?_));obtain rfl:=Ze H;refine aR _ rfl _ _ ⟨_,_,_,rfl,(leT P R),(S.fr' rfl),(Zza _ _),(Zza _ _)⟩
    have H:=Zw H x;refine ZF S rfl x (wp_exit (ZS ?_));obtain rfl:=Ze H;have hq:=af _ rfl;subst hq;have H:=ae;refine ZS (Zpa ?_);obtain rfl:=Ze H;refine Zb (ad _ _ ⟨_,_,rfl,(leT (leT (leR _) P) R),(S.fr' rfl),aQ⟩)
  rintro f w ⟨d,u,hq,bk,S,bm⟩;subst hq;have H:=aN;refine Zb (aK _ _ (sr (mv S rfl fun f S=>ov S rfl (Zi S rfl rfl Zbc) fun f S=>mv S rfl fun f S=>ov S rfl (Zi S rfl rfl ZRb) fun f S=>mv S rfl fun f S=>mv S rfl fun f S=>ov S rfl (Zi S rfl rfl Zbc) fun f S=>ov S rfl (Zi S rfl rfl ZCd) fun f S=>mw S rfl fun f S=>oe (Zg fun _ aX=>?_))));obtain ⟨bn,ah,H⟩:=Za H;refine Zo (mv S rfl fun f S=>mv S rfl fun f S=>ov S rfl (Zi S rfl rfl (Zcc ah)) fun f S=>mw S rfl fun f S=>Zn (Zb (aX _ _ (sr (mv S rfl fun f S=>mv S rfl fun f S=>mv S rfl fun f S=>ov S rfl (Zi S rfl rfl Zbc) fun f S=>ov S rfl (Zi S rfl rfl ZCd) fun f S=>mw S rfl fun f S=>?_)))));refine oe (Zg fun _ aY=>?_);obtain ⟨aZ,a0,a1⟩:=Za H;refine ZR (fun f w=>∃ (B:Int) (T:Zc),B = aZ∧Zc.le u T∧St 135 e c [(2,.int .u64 (a)),(8,.int .u64 (IntKind.u64.wrap h)),(14,.int .u64 (ZZa .u64 k ((4294967295:Int)))),(15,.int .u64 (d)),(17,.int .u64 (IntKind.u64.wrap ((IntKind.u64.wrap ((IntKind.u64.wrap ((orI .u64 i j) * ((4294967296:Int))))+l)) - (IntKind.u64.wrap (d * a))))),(18,.int .u64 (B))] [] T f w∧inR .u64 B) (fun _ ai=>?_) ?_
  · have H:=a0;refine wp_block ?_;obtain ⟨bo,a2,aj⟩:=Za H;refine Zua a2 (fun a3 f w=>∃ (o:Int) (p:Int) (J:Zc),(o,p) = a3∧Zc.le u J∧St 135 e c [(2,.int .u64 (a)),(8,.int .u64 (IntKind.u64.wrap h)),(9,.int .u64 (g)),(10,.int .u64 (ZZa .u64 a ((4294967295:Int)))),(14,.int .u64 (ZZa .u64 k ((4294967295:Int)))),(15,.int .u64 (d)),(16,.int .u64 (o)),(17,.int .u64 (IntKind.u64.wrap ((IntKind.u64.wrap ((IntKind.u64.wrap ((orI .u64 i j) * ((4294967296:Int))))+l)) - (IntKind.u64.wrap (d * a))))),(18,.int .u64 (p))] [] J f w∧inR .u64 o∧inR .u64 p) ⟨_,_,_,rfl,(leR _),(S.fr' rfl),(Zza _ _),(Z6e ah)⟩ ?_;rintro _ f w st ⟨o,p,J,hq,U,S,bp,a4⟩ H bq a5 ak;subst hq;refine Zg fun _ a6=>Zg fun _ a7=>?_;obtain ⟨a8,a9,ba⟩:=Za H;refine ZR (fun f w=>∃ (L:Bool) (V:Zc),L = a8∧Zc.le J V∧St 135 e c [(2,.int .u64 (a)),(8,.int .u64 (IntKind.u64.wrap h)),(9,.int .u64 (g)),(10,.int .u64 (ZZa .u64 a ((4294967295:Int)))),(14,.int .u64 (ZZa .u64 k ((4294967295:Int)))),(15,.int .u64 (d)),(16,.int .u64 (o)),(17,.int .u64 (IntKind.u64.wrap ((IntKind.u64.wrap ((IntKind.u64.wrap ((orI .u64 i j) * ((4294967296:Int))))+l)) - (IntKind.u64.wrap (d * a))))),(18,.int .u64 (p)),(113,.bool (L))] [] V f w) (fun _ al=>?_) ?_
    · have H:=a9;rcases Zx (decide ((4294967296:Int)≤p)) with C | C
      · have H:=Zy H C;refine Zo (mv S rfl fun f S=>ov S rfl (Zi S rfl rfl ZUa) fun f S=>?_);have S:=S.bool (t:=103) rfl C;refine mv S rfl fun f S=>opn S rfl rfl rfl rfl fun f S=>opn S rfl rfl rfl rfl fun f S=>opn S rfl rfl rfl rfl fun f S=>opn S rfl rfl rfl rfl fun f S=>opn S rfl rfl rfl rfl fun f S=>opn S rfl rfl rfl rfl fun f S=>opn S rfl rfl rfl rfl fun f S=>opn S rfl rfl rfl rfl fun f S=>ov S rfl (ZJ S (b:=true) rfl rfl) fun f S=>Zn ?_;obtain rfl:=Ze H;refine Zb (al _ _ ⟨_,_,rfl,(leR _),(S.fr' rfl)⟩)
      have H:=Zw H C;refine Zo (mv S rfl fun f S=>ov S rfl (Zi S rfl rfl ZUa) fun f S=>?_);have S:=S.bool (t:=103) rfl C;refine mv S rfl fun f S=>opy S rfl rfl rfl rfl (Zp S rfl) fun f S=>opy S rfl rfl rfl rfl (Zp S rfl) fun f S=>opy S rfl rfl rfl rfl (Zi S rfl rfl Zbc) fun f S=>opy S rfl rfl rfl rfl (Zp S rfl) fun f S=>opy S rfl rfl rfl rfl (Zi S rfl rfl Zbc) fun f S=>opy S rfl rfl rfl rfl (Zp S rfl) fun f S=>opy S rfl rfl rfl rfl (Zi S rfl rfl ZRb) fun f S=>opy S rfl rfl rfl rfl (Zi S rfl rfl Zxa) fun f S=>ov S rfl (ZJ S (b:=false) rfl rfl) fun f S=>Zn ?_;obtain rfl:=Ze H;refine Zb (al _ _ ⟨_,_,rfl,(leR _),(S.fr' rfl)⟩)
    rintro f w ⟨L,V,hq,W,S⟩;subst hq;have H:=ba;refine Zb (a7 _ _ ?_);rcases Zx (L) with D | D
    · have H:=Zy H D;refine ZG S rfl D (wp_skip (Zb (a6 _ _ (wp_block (sr (mv S rfl fun f S=>ov S rfl (Zi S rfl rfl ZCd) fun f S=>mw S rfl fun f S=>oe (sr (mv S rfl fun f S=>mv S rfl fun f S=>ov S rfl (Zi S rfl rfl ZRb) fun f S=>mw S rfl fun f S=>?_))))))));refine oe (sr (mv S rfl fun f S=>ov S rfl (Zi S rfl rfl ZUa) fun f S=>oe ?_));rcases Zx (decide ((4294967296:Int)≤IntKind.u64.wrap (o+g))) with E | E
      · have H:=Zy H E;refine ZG S rfl E (wp_exit (Zij rfl ?_));obtain rfl:=Ze H;have hq:=ak _ rfl;subst hq;have H:=aj;refine ZS (Zpa ?_);obtain rfl:=Ze H;refine Zb (ai _ _ ⟨_,_,rfl,(leT (leT (leR _) U) W),(S.fr' rfl),(Zza _ _)⟩)
      have H:=Zw H E;refine ZF S rfl E (wp_skip (Zka ?_));obtain rfl:=Ze H;refine a5 _ rfl _ _ ⟨_,_,_,rfl,(leT U W),(S.fr' rfl),(Zza _ _),(Zza _ _)⟩
    have H:=Zw H D;refine ZF S rfl D (wp_exit (ZS ?_));obtain rfl:=Ze H;have hq:=ak _ rfl;subst hq;have H:=aj;refine ZS (Zpa ?_);obtain rfl:=Ze H;refine Zb (ai _ _ ⟨_,_,rfl,(leT (leT (leR _) U) W),(S.fr' rfl),a4⟩)
  rintro f w ⟨B,T,hq,br,S,bs⟩;subst hq;have H:=a1;refine Zb (aY _ _ (Zg fun _ bb=>?_));obtain ⟨bc,am,H⟩:=Za H;refine Zo (mv S rfl fun f S=>ov S rfl (Zi S rfl rfl Zbc) fun f S=>mv S rfl fun f S=>ov S rfl (Zi S rfl rfl ZRb) fun f S=>mv S rfl fun f S=>ov S rfl (Zi S rfl rfl Zbc) fun f S=>mv S rfl fun f S=>ov S rfl (Zi S rfl rfl ZRb) fun f S=>mv S rfl fun f S=>mv S rfl fun f S=>ov S rfl (Zi S rfl rfl Zbc) fun f S=>ov S rfl (Zi S rfl rfl ZCd) fun f S=>mv S rfl fun f S=>?_);refine ov S rfl (Zi S rfl rfl (ZIb am)) fun f S=>mw S rfl fun f S=>mw S rfl fun f S=>Zn (Zb (bb _ _ (wp_ret ?_)));obtain rfl:=Ze H;refine ZE S (ZCa rfl (ZD S rfl) (ZD S rfl)) ⟨[.int .u64 (IntKind.u64.wrap ((IntKind.u64.wrap (d * ((4294967296:Int))))+B))],[.int .u64 (bc)],rfl,(Zz (Zza _ _)),(Zz (ZHd (Zza _ _) am))⟩
theorem ZAn {b:World} {a:Zc} (hv:VIn a b) {c:List Value} {hi:Int} (h:Rep.rel (Zd .u64) a c hi) {d:List Value} {lo:Int} (i:Rep.rel (Zd .u64) a d lo) {e:List Value} {y:Int} (j:Rep.rel (Zd .u64) a e y) {z:Int×Int} (hm:ZKd hi lo y = some z) :
    Ret Tryz.prog 142 #[(Zd .u64).val c,(Zd .u64).val d,(Zd .u64).val e] b a (fun y v'=>∃ f g,y = Value.tuple #[(Zd .u64).val f,(Zd .u64).val g]∧(Zd .u64).rel v' f z.1∧(Zd .u64).rel v' g z.2) :=
  div64_w hv h i j (Z5q hm)
theorem ZAq {E:World} {d:Zc} (hv:VIn d E) {R:List Value} {a:Nat} (g:Rep.rel ZK d R a) {T:List Value} {n:Int} (p1:Rep.rel (Zd .u64) d T n) {z:Nat×Int} (H:Zyh a n = some z):Ret Tryz.prog 127 #[ZK.val R,(Zd .u64).val T] E d (fun y v'=>∃ U V,y = .tuple #[ZK.val U,(Zd .u64).val V]∧ZK.rel v' U z.1∧(Zd .u64).rel v' V z.2):=by
  obtain ⟨W,X,Y,rfl⟩:=Zfa g;obtain ⟨rfl,r4⟩:=p1;refine ZY (K:=35) (args:=[.slice W X Y,.int .u64 (n)]) hv Tryz.func127 rfl rfl zl fun f S=>?_;unfold Zyh at H;refine sr (mw S rfl fun f S=>mw S rfl fun f S=>oe (Zg fun _ ah=>?_));obtain ⟨y9,F,H⟩:=Za H;refine Zo (mv S rfl fun f S=>ov S rfl (ZL S (Zv g) rfl rfl ZX) fun f S=>?_);obtain ⟨Z,aa⟩:∃ c:List Value,c = (List.replicate ((((Zl 18446744073709551616 a)).length:Int)).toNat [.int .u64 ((0:Int))]).flatten:=⟨_,rfl⟩;obtain ⟨ai,w,aj,S⟩:=ZQb ZNc S (l:=(((Zl 18446744073709551616 a)).length:Int)) (c:=(((Zl 18446744073709551616 a)).length:Int)) (Z7 F).1 (Z7 F).2.1 (Z7 F).2.2.1 (Z7 F).2.2.2 aa;have ak:Rep.rels (Zd .u64) d Z (List.replicate ((((Zl 18446744073709551616 a)).length:Int)).toNat ((0:Int))):=by rw [aa];exact ZJb (show Rep.rel (Zd .u64) _ [.int .u64 ((0:Int))] _ from (Zz (by decide))) _
  refine Zya wn rfl zl (aj rfl rfl) S fun f S=>mw S rfl fun f S=>Zn (Zb (ah _ _ (sr (mw S rfl fun f S=>oe (Zg fun _ al=>Zg fun _ am=>?_)))));obtain ⟨aV,ab,H⟩:=Za H;refine Zo (mv S rfl fun f S=>ov S rfl (ZL S (Zv g) rfl rfl ZX) fun f S=>ov S rfl (Zi S rfl rfl (ZKa ab)) fun f S=>mw S rfl fun f S=>Zn (Zb (am _ _ ?_)));obtain ⟨an,ao,ap⟩:=Za H;refine ZR (fun f w=>∃ (o:(List Int)) (s:Int) (t:Option Nat) (p:Nat) (u:Nat) (L:List Value) (G:Zc),(o,s) = an∧Zc.le d G∧St 35 E d [(6,.slice (mkA t) (p) u),(7,.int .u64 (s))] [Loc.own t 184 1 (p) u L] G f w∧Rep.rels (Zd .u64) G L o∧p = o.length∧inR .u64 s) (fun _ aq=>?_) ?_
  · have H:=ao;refine wp_block ?_;obtain ⟨aW,ar,au⟩:=Za H;refine Zua ar (fun av f w=>∃ (q:(List Int)) (h:Int) (b:Int) (I:Option Nat) (k:Nat) (v:Nat) (e:List Value) (J:Zc),(q,h,b) = av∧Zc.le d J∧St 35 E d [(0,.slice W X Y),(1,.int .u64 (n)),(6,.slice (mkA I) (k) v),(7,.int .u64 (h)),(8,.int .i64 (b))] [Loc.own I 184 1 (k) v e] J f w∧Rep.rels (Zd .u64) J e q∧k = q.length∧inR .u64 h∧inR .i64 b) ⟨_,_,_,some ai,((((Zl 18446744073709551616 a)).length:Int)).toNat,((((Zl 18446744073709551616 a)).length:Int)).toNat,Z,_,rfl,(leR _),(S.fr' rfl),ak,(Zxb (x:=(0:Int))),(by decide),(Zba ab).2⟩ ?_;rintro _ f w st ⟨q,h,b,I,k,v,e,J,hq,M,S,B,C,ac,aX⟩ H aY aw ax;subst hq;refine Zg fun _ ay=>sr (mv S rfl fun f S=>ov S rfl (Zi S rfl rfl ZUa) fun f S=>oe ?_);rcases Zx (decide ((0:Int)≤b)) with D | D
    · have H:=Zy H D;refine ZG S rfl D (wp_skip (Zb (ay _ _ (Zg fun _ az=>wp_block ?_))));obtain ⟨N,O,H⟩:=Za H;obtain ⟨m,aA,H⟩:=Za H;obtain ⟨aZ,r,H⟩:=Za H;refine Zo (mv S rfl fun f S=>mv S rfl fun f S=>mv S rfl fun f S=>mv S rfl fun f S=>mv S rfl fun f S=>?_);have g:=Zq M g;obtain ⟨_,a0,a1,a2,rfl,P,aB⟩:=Zma g (Zk O).2.1;obtain ⟨rfl,aC⟩:=aB;refine ov S rfl (ZO S rfl rfl ZX (Zk O).1 (ltI (Zv g) (Zk O).2.2.1)) fun f S=>ov S rfl (Z8 S rfl ZGa (S.view P)) fun f S=>mv S rfl fun f S=>opc S rfl (Zs S [.int .u64 (h),.int .u64 (N),.int .u64 (n)] ZLn rfl rfl) (ZAn S.vin (show Rep.rel (Zd .u64) _ [.int .u64 (h)] h from (Zz ac)) (show Rep.rel (Zd .u64) _ [.int .u64 (N)] N from (Zz aC)) (show Rep.rel (Zd .u64) _ [.int .u64 (n)] n from (Zz r4)) aA) ?_;rintro _ ad f w Q ⟨a3,a4,rfl,aD,aE⟩ S;have B:=ZW Q B;have P:=Atm Q P;obtain ⟨rfl,aF⟩:=aD;obtain ⟨rfl,aG⟩:=aE;refine mv S rfl fun f S=>ov S rfl (ZT S rfl rfl) fun f S=>ov S rfl (ZT S rfl rfl) fun f S=>?_;obtain ⟨aH,rfl⟩:=Zvb S (j:=0) rfl (ZCb C (Zk r).2.2.2);have ae:=ZBa B (Zk r).2.1;obtain ⟨a5,aI⟩:∃ c,(List.take (Zd .u64).n (List.drop ((b).toNat * (Zd .u64).n) e)) = c:=⟨_,rfl⟩
      rw [aI] at ae;obtain ⟨rfl,a6⟩:=ae;refine ov S rfl (ZO S rfl rfl ZX (Zk r).1 (ltI C (Zk r).2.2.1)) fun f S=>?_;obtain ⟨w,aJ,S⟩:=Znb S ZGa (off:=0+(b).toNat * 1) (z:=.int .u64 (m.1)) (cs:=[.int .u64 (m.1)]) (Zqb rfl) rfl (i:=0) rfl (ZAb S (j:=0) rfl (ltN C (Zk r).2.2.2)) (by first | rfl | simp [ZYa]);have aK:Rep.rels (Zd .u64) ad (List.take (0+(b).toNat * 1) e ++ [Value.int IntKind.u64 (m.1)] ++ List.drop (0+(b).toNat * 1+1) e) (q.set (b).toNat m.1):=Zwb B (Zk r).2.2.2 (show Rep.rel (Zd .u64) ad [.int .u64 (m.1)] _ from (Zz aF)) rfl rfl;have aL:k = (q.set (b).toNat m.1).length:=Zhb C;refine Z3 wn rfl (aJ rfl rfl) (mw S rfl fun f S=>Zn (Zka (Zb (az _ _ ?_))));obtain ⟨a7,af,H⟩:=Za H;refine Zo (mv S rfl fun f S=>ov S rfl (Zi S rfl rfl (ZKa af)) fun f S=>mw S rfl fun f S=>Zn ?_);obtain rfl:=Ze H;refine aw _ rfl _ _ ⟨_,_,_,some aH,k,v,(List.take (0+(b).toNat * 1) e ++ [Value.int IntKind.u64 (m.1)] ++ List.drop (0+(b).toNat * 1+1) e),_,rfl,(leT M Q),(S.fr' rfl),aK,aL,aG,(Zba af).2⟩
    have H:=Zw H D;refine ZF S rfl D (wp_exit (ZS ?_));obtain rfl:=Ze H;have hq:=ax _ rfl;subst hq;have H:=au;refine ZS (Zpa ?_);obtain rfl:=Ze H;refine Zb (aq _ _ ⟨_,_,I,k,v,e,_,rfl,(leT (leR _) M),(S.fr' rfl),B,C,ac⟩)
  rintro f w ⟨o,s,t,p,u,L,G,hq,a8,S,aM,aN,aO⟩;subst hq;have H:=ap;refine Zb (al _ _ (Zg fun _ aP=>?_));obtain ⟨a9,aQ,H⟩:=Za H;refine Zo (mv S rfl fun f S=>?_);obtain ⟨ba,bb,S,aR⟩:=S.pubSlice (i:=0) (A:=(Zd .u64)) (l:=o) (ℓ':=[]) rfl rfl aN aM rfl;refine opc S rfl (Zs S [.slice (mkA t) (p) u] Zxd rfl rfl) (ZDd S.vin (show Rep.rel (ZC (Zd .u64)) _ [.slice (mkA t) (p) u] o from aR) aQ) ?_;rintro _ bc f w bd ⟨be,rfl,ag⟩ S;obtain ⟨aS,aT,aU,rfl⟩:=Zfa ag;refine mv S rfl fun f S=>mw S rfl fun f S=>mw S rfl fun f S=>Zn (Zb (aP _ _ (wp_ret ?_)));obtain rfl:=Ze H;refine ZE S (ZCa rfl (ZD S rfl) (ZD S rfl)) ⟨[.slice aS aT aU],[.int .u64 (s)],rfl,ag,(Zz aO)⟩
theorem Zjn {c:World} {b:Zc} (hv:VIn b c) {d:List Value} {a:Nat} (i:Rep.rel ZK b d a) {e:List Value} {n:Int} (f:Rep.rel (Zd .u64) b e n) {z:Nat×Int} (hm:Z3d a n = some z) :
    Ret Tryz.prog 127 #[ZK.val d,(Zd .u64).val e] c b (fun y v'=>∃ g h,y = Value.tuple #[ZK.val g,(Zd .u64).val h]∧ZK.rel v' g z.1∧(Zd .u64).rel v' h z.2) :=
  ZAq hv i f (ZYp f.2 hm)
theorem cmp_w {m:World} {e:Zc} (hv:VIn e m) {A:List Value} {a:(List Int)} (c:Rep.rel (ZC (Zd .u64)) e A a) {B:List Value} {b:(List Int)} (d:Rep.rel (ZC (Zd .u64)) e B b) {z:Int} (H:ZKi a b = some z):Ret Tryz.prog 93 #[(ZC (Zd .u64)).val A,(ZC (Zd .u64)).val B] m e (fun y v'=>∃ C,y = (Zd .i64).val C∧(Zd .i64).rel v' C z):=by
  obtain ⟨D,E,G,rfl⟩:=ZVa c;obtain ⟨I,J,L,rfl⟩:=ZVa d;refine ZY (K:=41) (args:=[.slice D (E) G,.slice I (J) L]) hv Tryz.func93 rfl rfl zl fun f S=>?_;unfold ZKi at H;refine sr (mw S rfl fun f S=>oe (Zg fun _ P=>sr (mv S rfl fun f S=>ov S rfl (ZL S (Zv c) rfl rfl ZX) fun f S=>mv S rfl fun f S=>ov S rfl (ZL S (Zv d) rfl rfl ZX) fun f S=>ov S rfl (Zi S rfl rfl Zic) fun f S=>oe ?_)));rcases Zx (((a.length:Int)) != ((b.length:Int))) with g | g
  · have H:=Zy H g;refine ZG S rfl g (Zg fun _ Q=>sr (mv S rfl fun f S=>ov S rfl (ZL S (Zv c) rfl rfl ZX) fun f S=>mv S rfl fun f S=>ov S rfl (ZL S (Zv d) rfl rfl ZX) fun f S=>ov S rfl (Zi S rfl rfl ZU) fun f S=>oe ?_));rcases Zx (decide ((a.length:Int) < (b.length:Int))) with h | h
    · have H:=Zy H h;refine ZG S rfl h (sr (mw S rfl fun f S=>oe (wp_ret (ZB (ZB ?_)))));obtain rfl:=Ze H;refine ZE S (ZN rfl (ZD S rfl)) ⟨[.int .i64 ((-1:Int))],rfl,(Zz (by decide))⟩
    have H:=Zw H h;refine ZF S rfl h (wp_skip (Zb (Q _ _ (sr (mw S rfl fun f S=>oe (wp_ret (ZB ?_)))))));obtain rfl:=Ze H;refine ZE S (ZN rfl (ZD S rfl)) ⟨[.int .i64 ((1:Int))],rfl,(Zz (by decide))⟩
  have H:=Zw H g;refine ZF S rfl g (wp_skip (Zb (P _ _ (Zg fun _ R=>Zg fun _ T=>?_))));obtain ⟨ar,M,H⟩:=Za H;refine Zo (mv S rfl fun f S=>ov S rfl (ZL S (Zv c) rfl rfl ZX) fun f S=>ov S rfl (Zi S rfl rfl (ZKa M)) fun f S=>mw S rfl fun f S=>Zn (Zb (T _ _ ?_)));obtain ⟨U,V,o⟩:=Za H;refine ZR (fun f w=>∃  (p:Zc),(.inl (())) = U∧Zc.le e p∧St 41 m e [] [] p f w) (fun _ W=>?_) ?_
  · have H:=V;refine wp_block ?_;obtain ⟨au,X,q⟩:=Za H;refine Zua X (fun Y f w=>∃ (i:Int) (r:Zc),i = Y∧Zc.le e r∧St 41 m e [(0,.slice D (E) G),(1,.slice I (J) L),(5,.int .i64 (i))] [] r f w∧inR .i64 i) ⟨_,_,rfl,(leR _),(S.fr' rfl),(Zba M).2⟩ ?_;rintro _ f w st ⟨i,r,hq,n,S,av⟩ H aw Z s;subst hq;refine Zg fun _ aa=>sr (mv S rfl fun f S=>ov S rfl (Zi S rfl rfl ZUa) fun f S=>oe ?_);rcases Zx (decide ((0:Int)≤i)) with j | j
    · have H:=Zy H j;refine ZG S rfl j (wp_skip (Zb (aa _ _ (Zg fun _ ab=>wp_block (Zg fun _ ac=>Zg fun _ ad=>?_)))));obtain ⟨ae,t,H⟩:=Za H;obtain ⟨af,u,H⟩:=Za H;refine Zia (fl:=#[true,true,true,true,true,true,true,true,true]) Zha (by kernel_rfl) S ?_;intro ops O F w S;refine rfa O F 0 rfl rfl S (Zp S rfl) fun f S=>rfa O F 1 rfl rfl S (Zp S rfl) fun f S=>?_;have c:=Zq n c;obtain ⟨_,ax,ay,az,rfl,ag,ah⟩:=Zma c (Zk t).2.1;obtain ⟨rfl,aA⟩:=ah;refine rfa O F 2 rfl rfl S (ZO S rfl rfl ZX (Zk t).1 (ltI (Zv c) (Zk t).2.2.1)) fun f S=>rfa O F 3 rfl rfl S (Z8 S rfl ZGa (S.view ag)) fun f S=>rfa O F 4 rfl rfl S (Zp S rfl) fun f S=>rfa O F 5 rfl rfl S (Zp S rfl) fun f S=>?_;have d:=Zq n d;obtain ⟨_,aB,aC,aD,rfl,ai,aj⟩:=Zma d (Zk u).2.1;obtain ⟨rfl,aE⟩:=aj;refine rfa O F 6 rfl rfl S (ZO S rfl rfl ZX (Zk u).1 (ltI (Zv d) (Zk u).2.2.1)) fun f S=>rfa O F 7 rfl rfl S (Z8 S rfl ZGa (S.view ai)) fun f S=>rfa O F 8 rfl rfl S (Zi S rfl rfl ZU) fun f S=>Z6 O F (Zb (ad _ _ ?_));rcases Zx (decide (ae < af)) with k | k
      · have H:=Zy H k;refine ZG S rfl k (sr (mw S rfl fun f S=>oe (wp_ret (ZB (Z1 (ZB ?_))))));obtain rfl:=Ze H;have hq:=s _ rfl;subst hq;have H:=q;refine ZB (Z1 ?_);obtain rfl:=Ze H;have H:=o;refine ZB (ZB ?_);obtain rfl:=Ze H;refine ZE S (ZN rfl (ZD S rfl)) ⟨[.int .i64 ((-1:Int))],rfl,(Zz (by decide))⟩
      have H:=Zw H k;refine ZF S rfl k (wp_skip (Zb (ac _ _ (Zg fun _ ak=>?_))));obtain ⟨al,v,H⟩:=Za H;obtain ⟨am,x,H⟩:=Za H;refine Zia (fl:=#[true,true,true,true,true,true,true,true,true]) Zha (by kernel_rfl) S ?_;intro ops O F w S;refine rfa O F 0 rfl rfl S (Zp S rfl) fun f S=>rfa O F 1 rfl rfl S (Zp S rfl) fun f S=>?_;obtain ⟨aF,an,ao⟩:=Z2a c (Zk v).2.1;obtain ⟨rfl,aG⟩:=ao;refine rfa O F 2 rfl rfl S (ZO S rfl rfl ZX (Zk v).1 (ltI (Zv c) (Zk v).2.2.1)) fun f S=>rfa O F 3 rfl rfl S (Z8 S rfl ZGa (S.view an)) fun f S=>rfa O F 4 rfl rfl S (Zp S rfl) fun f S=>rfa O F 5 rfl rfl S (Zp S rfl) fun f S=>?_;obtain ⟨aH,ap,aq⟩:=Z2a d (Zk x).2.1;obtain ⟨rfl,aI⟩:=aq;refine rfa O F 6 rfl rfl S (ZO S rfl rfl ZX (Zk x).1 (ltI (Zv d) (Zk x).2.2.1)) fun f S=>rfa O F 7 rfl rfl S (Z8 S rfl ZGa (S.view ap)) fun f S=>rfa O F 8 rfl rfl S (Zi S rfl rfl Zxa) fun f S=>Z6 O F (Zb (ak _ _ ?_));rcases Zx (decide (am < al)) with l | l
      · have H:=Zy H l;refine ZG S rfl l (sr (mw S rfl fun f S=>oe (wp_ret (Z1 (ZB ?_)))));obtain rfl:=Ze H;have hq:=s _ rfl;subst hq;have H:=q;refine ZB (Z1 ?_);obtain rfl:=Ze H;have H:=o;refine ZB (ZB ?_);obtain rfl:=Ze H;refine ZE S (ZN rfl (ZD S rfl)) ⟨[.int .i64 ((1:Int))],rfl,(Zz (by decide))⟩
      have H:=Zw H l;refine ZF S rfl l (wp_skip (Zka (Zb (ab _ _ ?_))));obtain ⟨aJ,N,H⟩:=Za H;refine Zo (mv S rfl fun f S=>ov S rfl (Zi S rfl rfl (ZKa N)) fun f S=>mw S rfl fun f S=>Zn ?_);obtain rfl:=Ze H;refine Z _ rfl _ _ ⟨_,_,rfl,n,(S.fr' rfl),(Zba N).2⟩
    have H:=Zw H j;refine ZF S rfl j (wp_exit (ZS ?_));obtain rfl:=Ze H;have hq:=s _ rfl;subst hq;have H:=q;refine ZS (Zpa ?_);obtain rfl:=Ze H;refine Zb (W _ _ ⟨_,rfl,(leT (leR _) n),(S.fr' rfl)⟩)
  rintro f w ⟨p,hq,aK,S⟩;subst hq;have H:=o;refine Zb (R _ _ (sr (mw S rfl fun f S=>oe (wp_ret ?_))));obtain rfl:=Ze H;refine ZE S (ZN rfl (ZD S rfl)) ⟨[.int .i64 ((0:Int))],rfl,(Zz (by decide))⟩
theorem cmp_c {d:World} {c:Zc} (hv:VIn c d) {e:List Value} {a:Nat} (f:Rep.rel ZK c e a) {g:List Value} {b:Nat} (h:Rep.rel ZK c g b) {z:Int} (hm:cmpF a b = some z) :
    Ret Tryz.prog 93 #[ZK.val e,ZK.val g] d c (fun y v'=>∃ i,y = (Zd .i64).val i∧(Zd .i64).rel v' i z) :=
  cmp_w hv f h ((cmp_eq (ZRm f) (ZRm h)).trans hm)
theorem mul64_w {e:World} {a:Zc} (hv:VIn a e) {g:List Value} {x:Int} (l:Rep.rel (Zd .u64) a g x) {h:List Value} {y:Int} (m:Rep.rel (Zd .u64) a h y) {z:Int×Int} (H:ZMg x y = some z):Ret Tryz.prog 117 #[(Zd .u64).val g,(Zd .u64).val h] e a (fun y v'=>∃ i c,y = .tuple #[(Zd .u64).val i,(Zd .u64).val c]∧(Zd .u64).rel v' i z.1∧(Zd .u64).rel v' c z.2):=by
  obtain ⟨rfl,c⟩:=l;obtain ⟨rfl,B⟩:=m;refine ZY (K:=51) (args:=[.int .u64 (x),.int .u64 (y)]) hv Tryz.func117 rfl rfl zl fun f S=>?_;unfold ZMg at H;refine sr (mw S rfl fun f S=>mw S rfl fun f S=>oe (sr (mv S rfl fun f S=>ov S rfl (Zi S rfl rfl ZWe) fun f S=>mw S rfl fun f S=>oe (Zg fun _ n=>?_))));obtain ⟨b,o,H⟩:=Za H;refine Zo (mv S rfl fun f S=>ov S rfl (Zi S rfl rfl (ZIb o)) fun f S=>mw S rfl fun f S=>Zn (Zb (n _ _ (sr (mv S rfl fun f S=>ov S rfl (Zi S rfl rfl ZWe) fun f S=>mw S rfl fun f S=>oe (Zg fun _ p=>?_))))));obtain ⟨d,q,H⟩:=Za H;refine Zo (mv S rfl fun f S=>ov S rfl (Zi S rfl rfl (ZIb q)) fun f S=>mw S rfl fun f S=>Zn (Zb (p _ _ (sr (mv S rfl fun f S=>mv S rfl fun f S=>ov S rfl (Zi S rfl rfl Zbc) fun f S=>mw S rfl fun f S=>oe (Zg fun _ r=>?_))))));obtain ⟨s,t,H⟩:=Za H;refine Zo (mv S rfl fun f S=>mv S rfl fun f S=>ov S rfl (Zi S rfl rfl Zbc) fun f S=>mv S rfl fun f S=>ov S rfl (Zi S rfl rfl (ZIb t)) fun f S=>ov S rfl (Zi S rfl rfl ZRb) fun f S=>mw S rfl fun f S=>Zn ?_);have S:=S.fr' (σ':=[(0,.int .u64 (x)),(1,.int .u64 (y)),(6,.int .u64 (ZZa .u64 x ((4294967295:Int)))),(7,.int .u64 (b)),(9,.int .u64 (d)),(11,.int .u64 (IntKind.u64.wrap ((IntKind.u64.wrap (b * (ZZa .u64 y ((4294967295:Int)))))+s)))]) rfl
  refine Zb (r _ _ (sr (mv S rfl fun f S=>ov S rfl (Zi S rfl rfl ZWe) fun f S=>mw S rfl fun f S=>oe (Zg fun _ u=>?_))));obtain ⟨j,v,H⟩:=Za H;refine Zo (mv S rfl fun f S=>ov S rfl (Zi S rfl rfl (ZIb v)) fun f S=>mw S rfl fun f S=>Zn (Zb (u _ _ (sr (mv S rfl fun f S=>mv S rfl fun f S=>mv S rfl fun f S=>ov S rfl (Zi S rfl rfl Zbc) fun f S=>ov S rfl (Zi S rfl rfl ZRb) fun f S=>mw S rfl fun f S=>oe ?_)))));refine Zg fun _ w=>?_;obtain ⟨k,A,H⟩:=Za H;refine Zo (mv S rfl fun f S=>mv S rfl fun f S=>ov S rfl (Zi S rfl rfl Zbc) fun f S=>mv S rfl fun f S=>ov S rfl (Zi S rfl rfl ZRb) fun f S=>mv S rfl fun f S=>ov S rfl (Zi S rfl rfl (ZIb A)) fun f S=>ov S rfl (Zi S rfl rfl ZRb) fun f S=>mw S rfl fun f S=>Zn (Zb (w _ _ (sr (mv S rfl fun f S=>?_)))));refine mv S rfl fun f S=>ov S rfl (Zi S rfl rfl Zbc) fun f S=>mw S rfl fun f S=>?_;have S:=S.fr' (σ':=[(4,.int .u64 (IntKind.u64.wrap ((IntKind.u64.wrap ((IntKind.u64.wrap (b * d))+j))+k))),(5,.int .u64 (IntKind.u64.wrap (x * y)))]) rfl;refine oe (wp_ret ?_);obtain rfl:=Ze H;refine ZE S (ZCa rfl (ZD S rfl) (ZD S rfl)) ⟨[.int .u64 (IntKind.u64.wrap ((IntKind.u64.wrap ((IntKind.u64.wrap (b * d))+j))+k))],[.int .u64 (IntKind.u64.wrap (x * y))],rfl,(Zz (Zza _ _)),(Zz (Zza _ _))⟩
theorem Zcl {b:World} {a:Zc} (hv:VIn a b) {c:List Value} {x:Int} (g:Rep.rel (Zd .u64) a c x) {d:List Value} {y:Int} (h:Rep.rel (Zd .u64) a d y) {z:Int×Int} (hm:ZTd x y = some z) :
    Ret Tryz.prog 117 #[(Zd .u64).val c,(Zd .u64).val d] b a (fun y v'=>∃ e f,y = Value.tuple #[(Zd .u64).val e,(Zd .u64).val f]∧(Zd .u64).rel v' e z.1∧(Zd .u64).rel v' f z.2) :=
  mul64_w hv g h (Zmo hm)
end Go.Eng
