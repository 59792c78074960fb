/- Lemmas towards the statement: the engine of the walks, the functions' models, laws and walks, part 3. Conditions: as each states. -/
import Derived.Lib.AppendStr
import Derived.Lib.Builder
import Derived.Lib.UnsafeStr
import Derived.Test.YtmmnpljhffbjhaaGreatProg
import Derived.Test.YtmmnpljhffbjhaaGreatRdB
set_option linter.all false
set_option maxRecDepth 100000
namespace Go.Eng
theorem Z7j {n m : Nat} (h : n ≤ m) (hm : Z8a m) : Z8a n := by
  have := Z3c (B := 4294967296) (by decide) h; unfold Z8a at *; omega
theorem ZEj {n : Nat} (h : Z8a n) : bl n ≤ 2199023255552 := by
  unfold Z8a at h; have h1 := ZHc (B := 4294967296) (by decide) n; have h2 : 4294967296 ^ (Zj 4294967296 n).length = 2 ^ (32 * (Zj 4294967296 n).length) := by rw [Nat.pow_mul]
  rw [h2] at h1; have := ZMc h1; omega
theorem sm32_of {n k : Nat} (h : bl n ≤ 32 * k) (hk : k ≤ 68719476736) : Z8a n := by
  unfold Z8a; refine Nat.le_trans (Z6e (B := 4294967296) (k := k) (by decide) ?_) hk; have h1 := ZCe n; have h2 : 4294967296 ^ k = 2 ^ (32 * k) := by rw [Nat.pow_mul]
  rw [h2]; exact Nat.lt_of_lt_of_le h1 (Nat.pow_le_pow_right (by omega) h)
theorem Zpl {n : Nat} (h : bl n ≤ 2199023255552) : Z8a n := sm32_of (k := (bl n + 31) / 32) (by omega) (by omega)
theorem rgcd_eq {n m : Nat} (hn : Z8a n) (hm : Z8a m) : ZZg n m = some (Nat.gcd n m) := by
  unfold ZZg; rw [ZSa]; refine Zeb (fun s : Nat × Nat => Z8a s.1 ∧ Z8a s.2 ∧ Nat.gcd s.1 s.2 = Nat.gcd n m) (fun s => 2 * (bl s.1 + bl s.2) + if s.1 < s.2 then 1 else 0) (fun r : Nat => r = Nat.gcd n m) ⟨hn, hm, rfl⟩
    (ZPa (by have := ZEj hn; have := ZEj hm; simp only; split <;> omega)) ?_ ?_
  · rintro ⟨a, b⟩ ⟨ha, hb, hg⟩; simp only at ha hb hg ⊢; rw [Zlk]; by_cases h0 : b = 0
    · right; subst h0; exact ⟨_, rfl, by rw [← hg, Nat.gcd_zero_right]⟩
    · left; have h1 : Zad a b = some (a / b, a % b) := by unfold Zad; rw [if_pos ⟨ha, hb, h0⟩]
      have hlt : a % b < b := Nat.mod_lt _ (by omega); rw [decide_eq_true h0, ZI, h1, Ze]; refine ⟨_, rfl, ⟨hb, Z7j (Nat.le_of_lt hlt) hb, ?_⟩, ?_⟩
      · rw [← hg]; simp only; rw [Nat.gcd_comm b, ← Nat.gcd_rec, Nat.gcd_comm]
      · simp only; rw [if_neg (by omega)]; by_cases hab : a < b
        · rw [if_pos hab, Nat.mod_eq_of_lt hab]; omega
        · have := Zml (a := a) (b := b) (by omega) h0; rw [if_neg hab]; omega
  · rintro r rfl; rw [Ze]
theorem rgcF_eq {n m z : Nat} (h : rgcF n m = some z) : ZZg n m = some z := by
  unfold rgcF at h; split at h
  · rename_i hh; rw [rgcd_eq hh.1 hh.2, h]
  · cases h
theorem Zto {s : Bool} {n d : Nat} (hn : n ≠ 0) (hd : d ≠ 0) : decide ((mkRat (sgn s n) d).num < 0) = s ∧ (mkRat (sgn s n) d).num.natAbs = n / Nat.gcd n d ∧ (mkRat (sgn s n) d).den = d / Nat.gcd n d := by
  have e0 : (sgn s n).natAbs = n := by unfold sgn; split <;> omega
  have hg : 0 < Nat.gcd n d := Nat.gcd_pos_of_pos_left _ (Nat.pos_of_ne_zero hn); have hnum : (mkRat (sgn s n) d).num = sgn s n / (Nat.gcd n d : Int) := by rw [Rat.num_mkRat, Nat.gcd_comm, e0]; simp [hd, Nat.gcd_comm]
  have hden : (mkRat (sgn s n) d).den = d / Nat.gcd n d := by rw [Rat.den_mkRat, e0]; simp [hd, Nat.gcd_comm]
  obtain ⟨k, hk⟩ := Nat.gcd_dvd_left n d; have hk0 : k ≠ 0 := by rintro rfl; simp at hk; exact hn hk
  have hq : sgn s n / (Nat.gcd n d : Int) = sgn s k := by
    have : sgn s n = sgn s k * (Nat.gcd n d : Int) := by
      unfold sgn
      conv => lhs; rw [hk]
      split <;> grind
    rw [this, Int.mul_ediv_cancel _ (by omega)]
  have hnk : n / Nat.gcd n d = k := Nat.div_eq_of_eq_mul_right hg hk; rw [hnum, hq, hnk]; refine ⟨?_, by unfold sgn; split <;> omega, hden⟩
  cases s
  · apply decide_eq_false; simp only [sgn]; simp
  · apply decide_eq_true; simp only [sgn]; simp; omega
theorem ZQn {s : Bool} {n d : Nat} (hn : n ≠ 0) (hd : d ≠ 0) : Zte s (n / Nat.gcd n d) (d / Nat.gcd n d) = some (mkRat (sgn s n) d) := by
  obtain ⟨h1, h2, h3⟩ := Zto (s := s) hn hd; have := ZIm (mkRat (sgn s n) d); rw [h1, h2, h3] at this; exact this
theorem Zcp : Zte false 0 1 = some 0 := ZIm 0
theorem ZRm {s : Bool} {n d : Nat} {z : Rat} (h : ZYb s n d = some z) : Zvh s n d = some z := by
  unfold ZYb at h; split at h
  · rename_i hh; obtain ⟨h1, h2, h3⟩ := hh
    cases h
    unfold Zvh; rw [Z0h]; by_cases h0 : n = 0
    · subst h0; rw [decide_eq_true rfl, ZI, Z3j, Ze, Zcp, Ze]; have e : sgn s 0 = 0 := by cases s <;> rfl
      rw [e, Rat.zero_mkRat]
    · have e1 : rgcF n d = some (Nat.gcd n d) := by unfold rgcF; rw [if_pos ⟨h1, h2⟩]
      have hg : Nat.gcd n d ≠ 0 := by have := Nat.gcd_pos_of_pos_left d (Nat.pos_of_ne_zero h0); omega
      have okg : Z8a (Nat.gcd n d) := Z7j (Nat.gcd_le_left _ (Nat.pos_of_ne_zero h0)) h1; have e2 : Zad n (Nat.gcd n d) = some (n / Nat.gcd n d, n % Nat.gcd n d) := by unfold Zad; rw [if_pos ⟨h1, okg, hg⟩]
      have e3 : Zad d (Nat.gcd n d) = some (d / Nat.gcd n d, d % Nat.gcd n d) := by unfold Zad; rw [if_pos ⟨h2, okg, hg⟩]
      rw [decide_eq_false h0, ZH, e1, Ze, e2, Ze, e3, Ze, ZQn h0 h3, Ze]
  · cases h
noncomputable def ZNg (n : Int) : Option (Rat) :=
 ifb (decide (n < (0 : Int)))
 (bnd (Zmd (IntKind.u64.wrap (-(IntKind.u64.wrap n)))) fun a =>
 bnd (ZJc ([(1 : Int)])) fun b =>
 bnd (ZYb true a b) fun c =>
 some c)
 (bnd (Zmd (IntKind.u64.wrap n)) fun d =>
 bnd (ZJc ([(1 : Int)])) fun e =>
 bnd (ZYb false d e) fun f =>
 some f)
noncomputable def Zgh (n : Int) (d : Int) : Option (Rat × Int) :=
 ifb (d == ((0 : Int)))
 (bnd (ZTb ((0 : Int))) fun c =>
 some ((c, (3 : Int))))
 (bnd (ZTb n) fun a =>
 bnd (ZTb d) fun b =>
 bnd (ZYb ((decide (a.num < 0)) != (decide (b.num < 0))) a.num.natAbs b.num.natAbs) fun e =>
 some ((e, (0 : Int))))
noncomputable def Z5i (r : (Int × Int)) : Option (Rat) :=
 ifb (r.2 == ((0 : Int)))
 (bnd (ZTb r.1) fun a =>
 some a)
 (bnd (Zoe r.1 r.2) fun b =>
 some b.1)
noncomputable def Z2i (x : Rat) : Option (Int) :=
 bnd (ZEd x) fun a =>
 ifb (a)
 (some ((0 : Int)))
 (ifb (decide (x.num < 0))
 (some ((-1 : Int)))
 (some ((1 : Int))))
theorem ZAf {n : Nat} (h : n ≤ 18446744073709551616) : Z8a n := Zpl (Nat.le_trans (ZMc (show n < 2 ^ 65 by omega)) (by decide))
theorem Zll (n : Int) : mkRat n 1 = (n : Rat) := by
  have := Rat.mkRat_self (n : Rat)
  simpa using this
theorem ZFp {n : Int} (h1 : -9223372036854775808 ≤ n) (h2 : n ≤ 9223372036854775807) : ZNg n = some (n : Rat) := by
  unfold ZNg; rw [Z3j]; unfold Zmd ZYb; by_cases h : n < 0
  · obtain ⟨k, rfl⟩ : ∃ k : Nat, n = -(k : Int) := ⟨n.natAbs, by omega⟩; have e1 : IntKind.u64.wrap (-(IntKind.u64.wrap (-(k : Int)))) = (k : Int) := by rw [wrap_u64, wrap_u64]; omega
    rw [decide_eq_true h, ZI, e1, Ze, Ze, Int.toNat_natCast, if_pos ⟨ZAf (by omega), ZAf (by omega), by omega⟩, Ze, Zll]; rfl
  · obtain ⟨k, rfl⟩ := Int.eq_ofNat_of_zero_le (show 0 ≤ n by omega); rw [decide_eq_false h, ZH, ZJb (by omega), Ze, Ze, Int.toNat_natCast, if_pos ⟨ZAf (by omega), ZAf (by omega), by omega⟩, Ze, Zll]; rfl
theorem ZCn {n : Int} {z : Rat} (hn : inR .i64 n) (h : ZTb n = some z) : ZNg n = some z := by
  have := Z3b.1 hn; unfold ZTb at h; rw [ZFp (by omega) (by omega), h]
theorem Z4m (n m : Int) : sgn (decide (n < 0) != decide (m < 0)) n.natAbs = if m < 0 then -n else n := by
  have := ZRj n m; unfold Zwb at this; exact Option.some.inj this
theorem ZCo {n d : Int} {z : Rat × Int} (hn : inR .i64 n) (hd : inR .i64 d) (h : Zoe n d = some z) : Zgh n d = some z := by
  have hn := Z3b.1 hn; have hd := Z3b.1 hd; unfold Zoe at h
  cases h
  unfold Zgh ZTb; by_cases h0 : d = 0
  · subst h0; rfl
  · have e0 : (d == 0) = false := by simp [h0]
    rw [e0, ZH, if_neg h0, Ze, Ze]; unfold ZYb; rw [Rat.num_intCast, Rat.num_intCast, if_pos ⟨ZAf (by omega), ZAf (by omega), by omega⟩, Ze, Z4m, ← Zgk]
theorem rofF_eq {r : Int × Int} {z : Rat} (h : ZJe r = some z) : Z5i r = some z := by
  unfold ZJe at h
  cases h
  unfold Z5i Zhi ZTb Zoe; by_cases h0 : r.2 = 0
  · rw [if_pos h0, h0]; rfl
  · have : (r.2 == 0) = false := by simp [h0]
    rw [this, ZH, Ze, if_neg h0, if_neg h0]
theorem Z0n {x : Rat} {z : Int} (h : Z9f x = some z) : Z2i x = some z := by
  unfold Z9f at h
  cases h
  unfold Z2i ZEd; rw [Ze]; by_cases h0 : x = 0
  · subst h0; rfl
  · have := Zui h0; rw [decide_eq_false h0, ZH]; by_cases h1 : x.num < 0
    · rw [decide_eq_true h1, ZI, Int.sign_eq_neg_one_of_neg h1]
    · rw [decide_eq_false h1, ZH, Int.sign_eq_one_of_pos (by omega)]
end Go.Eng
namespace Go.Eng
open Go.RowKit
def Zfl (P : Program) (f : FuncId) (T e : TypeId) : Prop := ∀ (B b : Nat) (bs : List Value) (s : ByteArray) (w : World), Lib.IsBuilder T e B b bs w → bs.length + s.size ≤ 140737488355328 → B ≤ w.heap.size →
  Calls P f #[.pointer (some ⟨b, 0, none⟩), .string s] w fun x w' => x = .returned (.tuple #[.int .i64 s.size, .nilIface]) ∧ (Lib.BuilderAt T e B b (.pointer (some ⟨b, 0, none⟩)) (bs ++ Lib.strCells s) w' ∧ Below B w w')
def Tells (P : Program) (f : FuncId) (T e : TypeId) : Prop := ∀ (B b : Nat) (l : List UInt8) (w : World), Lib.IsBuilder T e B b (Lib.byteCells l) w → B ≤ w.heap.size →
  Calls P f #[.pointer (some ⟨b, 0, none⟩)] w fun x w' => x = .returned (.string ⟨l.toArray⟩) ∧ Below B w w'
structure Bld (T e b : Nat) (w0 : Base) (v : Zd) (m : List UInt8) (w : World) : Prop where
  is : Lib.IsBuilder T e b b (Lib.byteCells m) w
  old : ∀ k o, v k = some o → k < b
  base : w0.wd.heap.size ≤ b
  lt : b ≤ w.heap.size
variable {P : Program} {K : Nat} {w0 : Base} {v0 : Zd} {σ : List (Nat × Value)} {ℓ : List Loc} {v : Zd} {a : Act} {w : World}
variable {ops : Array Oper} {Q : Exit → Act → World → Prop} {rest : List Oper}
theorem St.below {w' : World} {b : Nat} (h : St K w0 v0 σ [] v a w) (x : Below b w w') (hv : ∀ k o, v k = some o → k < b) (hb : w0.wd.heap.size ≤ b) : St K w0 v0 σ [] v a w' :=
  ⟨h.size, h.dfr, h.fr, ⟨x.os.trans h.ext.os, x.tape.trans h.ext.tape, x.output.trans h.ext.output, Nat.le_trans h.ext.size x.size, fun k hk hn => (x.block k (by omega)).trans (h.ext.block k hk hn)⟩,
    ⟨h.vst.le, fun k o e => (x.block k (hv k o e)).trans (h.vst.vin k o e), h.vst.old⟩, fun e he => by simp at he, List.nodup_nil⟩
theorem op_newB {o : Oper} {d T : Nat} (e : Nat) (hS : St K w0 v0 σ ℓ v a w) (hw : Region.wanted o (yielded ops a.tmps) = true) (hd : o.dst = some d) (hK : d < K)
    (hrun : (execOp a.eval o).run P w = .ok (.value (.pointer (some ⟨w.heap.size, 0, none⟩))) (w.alloc (.cells #[.pointer none, .slice none 0 0] T)))
    (h : ∀ b a w, St K w0 v0 ((d, .pointer (some ⟨b, 0, none⟩)) :: σ) [] v a w → Bld T e b w0 v [] w → wpList P ops Q rest a w) : wpList P ops Q (o :: rest) a w :=
  Zbe hw (Zjf hrun (by
    rw [hd]
    have h1 : St K w0 v0 σ [] v a w := hS.drop (List.nil_sublist _)
    have h2 : Ext w (w.alloc (.cells #[.pointer none, .slice none 0 0] T)) := Ext.alloc w _
    exact h w.heap.size _ _ ((h1.step h2 (VStep.ext h1.vin h2)).put _ hK) ⟨Lib.fresh_isBuilder T e w, fun k o hk => h1.vin.lt hk, h1.ext.size, h2.size⟩))
theorem Zfq (l l' : List UInt8) : Lib.byteCells l ++ Lib.strCells (Z7 l') = Lib.byteCells (l ++ l') := by simp [Lib.byteCells, Lib.strCells, Z7]
theorem Zgp {o : Oper} {d f T e b : Nat} {m s : List UInt8} (hW : Zfl P f T e) (hB : Bld T e b w0 v m w) (hl : (m ++ s).length ≤ 140737488355328) (hS : St K w0 v0 σ [] v a w) (hw : Region.wanted o (yielded ops a.tmps) = true) (hd : o.dst = some d) (hK : d < K)
    (hrun : (execOp a.eval o).run P w = .ok (.enter f #[.pointer (some ⟨b, 0, none⟩), .string (Z7 s)]) w)
    (h : ∀ a w, St K w0 v0 ((d, .tuple #[.int .i64 s.length, .nilIface]) :: σ) [] v a w → Bld T e b w0 v (m ++ s) w → wpList P ops Q rest a w) : wpList P ops Q (o :: rest) a w := by
  have hc := hW b b (Lib.byteCells m) (Z7 s) w hB.is (by rw [Lib.byteCells_length, Zjd, ← List.length_append]; exact hl) hB.lt; refine Zbe hw (ZHg hrun (Calls.mono hc fun x w' ⟨e1, e2, e3⟩ => ⟨_, e1, ?_⟩)); rw [hd]; rw [Zjd] at *; rw [Zfq] at e2; exact h _ _ ((hS.below e3 hB.old hB.base).put _ hK) ⟨.inr e2, hB.old, hB.base, Nat.le_trans hB.lt e3.size⟩
theorem op_tell {o : Oper} {d f T e b : Nat} {m : List UInt8} (hT : Tells P f T e) (hB : Bld T e b w0 v m w) (hS : St K w0 v0 σ [] v a w) (hw : Region.wanted o (yielded ops a.tmps) = true) (hd : o.dst = some d) (hK : d < K)
    (hrun : (execOp a.eval o).run P w = .ok (.enter f #[.pointer (some ⟨b, 0, none⟩)]) w)
    (h : ∀ a w, St K w0 v0 ((d, .string (Z7 m)) :: σ) [] v a w → wpList P ops Q rest a w) : wpList P ops Q (o :: rest) a w := by
  have hc := hT b b m w hB.is hB.lt; refine Zbe hw (ZHg hrun (Calls.mono hc fun x w' ⟨e1, e3⟩ => ⟨_, e1, ?_⟩)); rw [hd]; exact h _ _ ((hS.below e3 hB.old hB.base).put _ hK)
def Zhg (l : List UInt8) : Option Unit := if l.length ≤ 140737488355328 then some () else none
theorem ZRp {l : List UInt8} {u : Unit} (h : Zhg l = some u) : l.length ≤ 140737488355328 := by
  unfold Zhg at h; split at h
  · assumption
  · cases h
theorem Zxq {q : Option Nat} {b o : Nat} (h : mkA q = some ⟨b, o, none⟩) : q = some b ∧ o = 0 := by
  cases q with
  | none => cases h
  | some c => cases h; exact ⟨rfl, rfl⟩
noncomputable def ZKg (a : Nat) : Option ((List UInt8)) :=
 bnd (bnd (Z4 (fun s : Nat × (List UInt8) => match s with
 | (e, f) =>
 (ifb (decide ((0 : Int) < (((Zj 4294967296 e)).length : Int)))
 (bnd (Zxe e ((1000000000 : Int))) fun c =>
 bnd (bnd (Z4 (fun s : (List UInt8) × Int × Int => match s with
 | (d, b, g) =>
 (bnd (ifb (decide (g < (9 : Int)))
 (ifb (decide ((0 : Int) < (((Zj 4294967296 c.1)).length : Int)))
 (some true)
 (some (decide ((0 : Int) < b))))
 (some false))
 (fun (j : Bool) =>
 (ifb (j)
 (bnd (rem .u32 b ((10 : Int))) fun k =>
 bnd (rem .u32 b ((10 : Int))) fun l =>
 bnd (ZIb (([48, 49, 50, 51, 52, 53, 54, 55, 56, 57] : List UInt8)) k (IntKind.u32.wrap (l + ((1 : Int))))) fun h =>
 bnd (Z7b (h ++ d)) fun r =>
 bnd (quo .u32 b ((10 : Int))) fun m =>
 bnd (chk .i64 (g + ((1 : Int)))) fun n =>
 some (.inl (((h ++ d), m, n))))
 (some (.inr d)))))) Zfa ((f, c.2, (0 : Int))))
 (fun (o : (List UInt8)) =>
 (some o)))
 (fun (p : (List UInt8)) =>
 (some (.inl ((c.1, p))))))
 (some (.inr f)))) Zfa ((a, ([] : List UInt8))))
 (fun (q : (List UInt8)) =>
 (some q)))
 (fun (i : (List UInt8)) =>
 (ifb (i == (([] : List UInt8)))
 (some (([48] : List UInt8)))
 (some i)))
noncomputable def ZZf (a : Nat) : Option ((List UInt8)) :=
 bnd (bnd (Z4 (fun s : Nat × (List (List UInt8)) => match s with
 | (h, c) =>
 (ifb (decide ((0 : Int) < (((Zj 18446744073709551616 h)).length : Int)))
 (bnd (ZVd h ((10000000000000000000 : Int))) fun d =>
 bnd (Zsf d.2) fun b =>
 bnd (ifb (decide ((0 : Int) < (((Zj 18446744073709551616 d.1)).length : Int)))
 (bnd (chk .i64 (((19 : Int)) - ((b.length : Int)))) fun m =>
 bnd (ZJf (([48] : List UInt8)) m) fun i =>
 bnd (Z7b (i ++ b)) fun r =>
 some ((i ++ b)))
 (some b))
 (fun (j : (List UInt8)) =>
 (bnd (Zxb 16 (c ++ [j])) fun t =>
 some (.inl ((d.1, (c ++ [j])))))))
 (some (.inr c)))) Zfa ((a, ([] : (List (List UInt8))))))
 (fun (n : (List (List UInt8))) =>
 (some n)))
 (fun (e : (List (List UInt8))) =>
 (ifb (((e.length : Int)) == ((0 : Int)))
 (some (([48] : List UInt8)))
 (bnd (chk .i64 (((e.length : Int)) - ((1 : Int)))) fun o =>
 bnd (bnd (Z4 (fun s : (List UInt8) × Int => match s with
 | (f, g) =>
 (ifb (decide ((0 : Int) ≤ g))
 (bnd (idx e g) fun k =>
 bnd (Zhg (f ++ k)) fun u =>
 bnd (chk .i64 (g - ((1 : Int)))) fun p =>
 some (.inl (((f ++ k), p))))
 (some (.inr f)))) Zfa ((([] : List UInt8), o)))
 (fun (q : (List UInt8)) =>
 (some q)))
 (fun (l : (List UInt8)) =>
 (bnd (Z7b l) fun v =>
 some l)))))
noncomputable def Z4i (x : Rat) : Option ((List UInt8)) :=
 bnd (Zvf ((x.num).natAbs)) fun a =>
 bnd (ifb (decide (x.num < 0))
 (bnd (Z7b ((([45] : List UInt8)) ++ a)) fun e =>
 some (((([45] : List UInt8)) ++ a)))
 (some a))
 (fun (b : (List UInt8)) =>
 (bnd (ifb (decide ((0 : Int) < (((Zj 18446744073709551616 ((Zhb x.den)))).length : Int)))
 (bnd (Zvf ((Zhb x.den))) fun c =>
 bnd (Z7b ((([47] : List UInt8)) ++ c)) fun f =>
 bnd (Z7b (b ++ (((([47] : List UInt8)) ++ c)))) fun g =>
 some ((b ++ (((([47] : List UInt8)) ++ c)))))
 (some b))
 (fun (d : (List UInt8)) =>
 (some d))))
theorem Zji (n : Nat) : (ZDa n).length ≤ bl n := by
  induction n using Nat.strongRecOn with
  | ind n ih =>
    by_cases h : n = 0
    · subst h; rw [ZUc]; simp
    · rw [ZMe h, List.length_append]; have h1 := ih (n / 10) (by omega); have h2 : bl (n / 10) + 1 ≤ bl n := by
        rw [Zti h]; exact Nat.add_le_add_right (Z7c (by omega)) 1
      simp only [List.length_cons, List.length_nil]; omega
theorem Zsp {n k : Nat} (h : n < 10 ^ k) : (ZDa n).length ≤ k := by
  induction k generalizing n with
  | zero => simp at h; subst h; rw [ZUc]; simp
  | succ k ih =>
    by_cases h0 : n = 0
    · subst h0; rw [ZUc]; simp
    · rw [ZMe h0, List.length_append]; have := ih (n := n / 10) (by rw [Nat.pow_succ] at h; omega); simp only [List.length_cons, List.length_nil]; omega
theorem ZHn {q : Nat} (hq : q ≠ 0) : ∀ (k r : Nat), r < 10 ^ k → ZDa (q * 10 ^ k + r) = ZDa q ++ (List.replicate (k - (ZDa r).length) 48 ++ ZDa r) := by
  intro k
  induction k with
  | zero => intro r h; simp at h; subst h; rw [ZUc]; simp
  | succ k ih =>
    intro r h; rw [Nat.pow_succ] at h; have hn : q * 10 ^ (k + 1) + r ≠ 0 := by
      have : 0 < q * 10 ^ (k + 1) := Nat.mul_pos (by omega) (Nat.pow_pos (by omega)); omega
    have e1 : (q * 10 ^ (k + 1) + r) / 10 = q * 10 ^ k + r / 10 := by rw [Nat.pow_succ, ← Nat.mul_assoc]; generalize q * 10 ^ k = p; omega
    have e2 : (q * 10 ^ (k + 1) + r) % 10 = r % 10 := by rw [Nat.pow_succ, ← Nat.mul_assoc]; generalize q * 10 ^ k = p; omega
    rw [ZMe hn, e1, e2, ih (r / 10) (by omega)]; by_cases h0 : r = 0
    · subst h0; simp only [Nat.zero_div, ZUc, List.length_nil, Nat.sub_zero, List.append_nil, List.append_assoc]; congr 1; rw [List.replicate_succ']; rfl
    · rw [ZMe h0, List.length_append]; simp only [List.length_cons, List.length_nil, List.append_assoc]; rw [show k + 1 - ((ZDa (r / 10)).length + (0 + 1)) = k - (ZDa (r / 10)).length by omega]
theorem Zce {l : List UInt8} (h : l.length ≤ 140737488355328) : Z7b l = some () := by unfold Z7b; rw [if_pos (by unfold maxLen; omega)]
theorem Zoo {d : Nat} (h : d < 10) : ZIb ([48, 49, 50, 51, 52, 53, 54, 55, 56, 57] : List UInt8) (d : Int) ((d + 1 : Nat) : Int) = some [UInt8.ofNat (48 + d)] := by
  have : d = 0 ∨ d = 1 ∨ d = 2 ∨ d = 3 ∨ d = 4 ∨ d = 5 ∨ d = 6 ∨ d = 7 ∨ d = 8 ∨ d = 9 := by omega
  rcases this with rfl | rfl | rfl | rfl | rfl | rfl | rfl | rfl | rfl | rfl <;> rfl
theorem quo_u32 {p q : Nat} (hq : 0 < q) (hp : p < 4294967296) : quo .u32 (p : Int) (q : Int) = some ((p / q : Nat) : Int) := by
  unfold quo; rw [if_neg (by omega)]; have e : (p : Int).tdiv (q : Int) = ((p / q : Nat) : Int) := by simp [Int.tdiv_eq_ediv_of_nonneg]
  have h : p / q ≤ p := Nat.div_le_self _ _; generalize p / q = r at *; have h5 : inR .u32 (r : Int) := (show (0 : Int) ≤ (r : Int) ∧ (r : Int) ≤ 4294967295 from ⟨by omega, by omega⟩); rw [e, ZJj h5]
theorem beq_nil {l : List UInt8} : (l == ([] : List UInt8)) = decide (l = []) := by
  cases l <;> rfl
theorem Zim {n : Nat} : ZDa n = [] ↔ n = 0 := by
  constructor
  · intro h; rcases Nat.eq_zero_or_pos n with h0 | h0
    · exact h0
    · rw [ZMe (by omega)] at h; simp at h
  · rintro rfl; exact ZUc
theorem ZRo {a : Nat} (ha : Z8a a) : ZKg a = some (ZAb a) := by
  unfold ZKg; rw [ZSa]; have hbl := ZEj ha; refine Zeb (fun s : Nat × List UInt8 => Z8a s.1 ∧ ZDa s.1 ++ s.2 = ZDa a) (fun s => bl s.1) (fun r : List UInt8 => r = ZDa a) ⟨ha, by simp⟩ (ZPa (by simp only; omega)) ?_ ?_
  · rintro ⟨x, s⟩ ⟨hx, he⟩; simp only at hx he ⊢; rw [Zlk]; by_cases h0 : x = 0
    · right; subst h0; rw [show decide ((0 : Nat) ≠ 0) = false from rfl, ZH]; exact ⟨_, rfl, by rw [← he, ZUc]; rfl⟩
    · left; have e1 : Zxe x (1000000000 : Int) = some (x / 1000000000, ((x % 1000000000 : Nat) : Int)) := by
        unfold Zxe; rw [if_pos ⟨by unfold ZKa; unfold Z8a at hx; omega, by omega⟩]; rfl
      rw [decide_eq_true h0, ZI, e1, Ze, ZSa]; have hslen : s.length ≤ 4398046511104 := by
        have := Zji a; rw [← he, List.length_append] at this; omega
      refine Ztj (s := (s, ((x % 1000000000 : Nat) : Int), (0 : Int))) (fun t : List UInt8 × Int × Int => ∃ r k m : Nat, t.2.1 = (r : Int) ∧ t.2.2 = (k : Int) ∧ k + m = 9 ∧ r < 10 ^ m ∧ r < 1000000000 ∧ ZDa (x / 1000000000 * 10 ^ m + r) ++ t.1 = ZDa a) (fun t => 9 - t.2.2.toNat)
        (fun t : List UInt8 => ZDa (x / 1000000000) ++ t = ZDa a) ⟨x % 1000000000, 0, 9, rfl, rfl, rfl, Nat.mod_lt _ (by decide), Nat.mod_lt _ (by decide), by
          rw [show x / 1000000000 * 10 ^ 9 + x % 1000000000 = x by omega]; exact he⟩ (ZPa (by simp)) ?_ ?_
      · rintro ⟨t, r, k⟩ ⟨r, k, m, rfl, rfl, hk, hr, hr2, hd⟩; simp only at hd ⊢; rw [Zlk]; have htl : t.length ≤ 4398046511104 := by
          have := Zji a; rw [← hd, List.length_append] at this; omega
        have cond : ifb (decide ((k : Int) < 9)) (ifb (decide (x / 1000000000 ≠ 0)) (some true) (some (decide ((0 : Int) < (r : Int))))) (some false) = some (decide (k < 9 ∧ x / 1000000000 * 10 ^ m + r ≠ 0)) := by
          by_cases h1 : k < 9
          · rw [decide_eq_true (by omega), ZI]; by_cases h2 : x / 1000000000 = 0
            · rw [decide_eq_false (by simp [h2]), ZH, h2]; exact congrArg some (decide_eq_decide.2 (by omega))
            · rw [decide_eq_true h2, ZI]; have : 0 < x / 1000000000 * 10 ^ m := Nat.mul_pos (by omega) (Nat.pow_pos (by omega)); rw [decide_eq_true ⟨h1, by omega⟩]
          · rw [decide_eq_false (by omega), ZH, decide_eq_false (by omega)]
        rw [cond, Ze]; by_cases hc : k < 9 ∧ x / 1000000000 * 10 ^ m + r ≠ 0
        · left; obtain ⟨h1, h2⟩ := hc; obtain ⟨m, rfl⟩ : ∃ j, m = j + 1 := ⟨m - 1, by omega⟩; have c1 : rem .u32 (r : Int) 10 = some ((r % 10 : Nat) : Int) := ZQe (q := 10) (by omega); have c2 : quo .u32 (r : Int) 10 = some ((r / 10 : Nat) : Int) := quo_u32 (q := 10) (by omega) (by omega); have c3 : IntKind.u32.wrap (((r % 10 : Nat) : Int) + 1) = ((r % 10 + 1 : Nat) : Int) := by rw [wrap_u32]; omega
          have c4 : chk .i64 ((k : Int) + 1) = some ((k + 1 : Nat) : Int) := by rw [show (k : Int) + 1 = ((k + 1 : Nat) : Int) by omega, Zfb (by omega)]
          rw [decide_eq_true ⟨h1, h2⟩, ZI, c1, Ze, Ze, c3, Zoo (Nat.mod_lt _ (by omega)), Ze, Zce (by simp; omega), Ze, c2, Ze, c4, Ze]; rw [Nat.pow_succ] at hr; refine ⟨_, rfl, ⟨r / 10, k + 1, m, rfl, rfl, by omega, by omega, by omega, ?_⟩, by simp; omega⟩; simp only; rw [← hd, ZMe h2, List.append_assoc]; have e2 : (x / 1000000000 * 10 ^ (m + 1) + r) / 10 = x / 1000000000 * 10 ^ m + r / 10 := by rw [Nat.pow_succ, ← Nat.mul_assoc]; generalize x / 1000000000 * 10 ^ m = p; omega
          have e3 : (x / 1000000000 * 10 ^ (m + 1) + r) % 10 = r % 10 := by rw [Nat.pow_succ, ← Nat.mul_assoc]; generalize x / 1000000000 * 10 ^ m = p; omega
          rw [e2, e3]
        · right; rw [decide_eq_false hc, ZH]; refine ⟨_, rfl, ?_⟩; rw [← hd]; congr 2; by_cases hm : m = 0
          · subst hm; simp at hr; simp [hr]
          · have h2 : x / 1000000000 * 10 ^ m + r = 0 := by
              rcases Nat.eq_zero_or_pos (x / 1000000000 * 10 ^ m + r) with h | h
              · exact h
              · exact absurd ⟨by omega, by omega⟩ hc
            have h3 : x / 1000000000 * 10 ^ m = 0 := by omega
            rcases Nat.mul_eq_zero.1 h3 with h | h
            · rw [h2, h]
            · exact absurd h (Nat.pos_iff_ne_zero.1 (Nat.pow_pos (by omega)))
      · rintro t ht; rw [Ze]; refine ⟨_, rfl, ⟨Z7j (Nat.div_le_self _ _) hx, ht⟩, ?_⟩; simp only; have := Zti h0; have h3 : bl (x / 1000000000) ≤ bl (x / 2) := Z7c (by omega); omega
  · rintro r rfl; rw [Ze, beq_nil]; unfold ZAb; by_cases h0 : a = 0
    · subst h0; rw [decide_eq_true ZUc, ZI, if_pos rfl]
    · rw [decide_eq_false (fun h => h0 (Zim.1 h)), ZH, if_neg h0]
theorem Zmq {n : Nat} {z : List UInt8} (h : ZWf n = some z) : ZKg n = some z := by
  unfold ZWf at h; split at h
  · rename_i hh; rw [ZRo hh, h]
  · cases h
theorem Z9m (r : List (List UInt8)) (j : Nat) : ((r.drop j).reverse.flatten).length ≤ r.reverse.flatten.length := by
  have h : r.reverse.flatten = (r.drop j).reverse.flatten ++ (r.take j).reverse.flatten := by
    rw [← List.flatten_append, ← List.reverse_append, List.take_append_drop]
  rw [h, List.length_append]; omega
theorem ZDm (c : UInt8) : ∀ k : Nat, (List.replicate k [c]).flatten = List.replicate k c
  | 0 => rfl
  | k + 1 => by rw [List.replicate_succ, List.flatten_cons, ZDm c k, List.replicate_succ]; rfl
theorem text_eq {a : Nat} (ha : okN a) : ZZf a = some (ZAb a) := by
  unfold ZZf; have hbl := Zzk ha; have hda := Zji a; rw [ZSa]; refine Zeb (fun s : Nat × List (List UInt8) => okN s.1 ∧ ZDa s.1 ++ s.2.reverse.flatten = ZDa a ∧ bl s.1 + s.2.length ≤ bl a) (fun s => bl s.1) (fun r : List (List UInt8) => r.reverse.flatten = ZDa a ∧ r.length ≤ bl a ∧ (a ≠ 0 → r ≠ [])) ⟨ha, by simp, by simp⟩ (ZPa (by simp only; omega)) ?_ ?_
  · rintro ⟨x, s⟩ ⟨hx, he, hl⟩; simp only at hx he hl ⊢; by_cases h0 : x = 0
    · right; subst h0; rw [ZTa, show decide ((0 : Int) < (([] : List Int).length : Int)) = false from rfl, ZH]; rw [ZUc, List.nil_append] at he; refine ⟨_, rfl, he, by omega, fun h1 h2 => ?_⟩; subst h2; exact h1 (Zim.1 he.symm)
    · left; have hpos := List.length_pos_iff.2 ((ZEc (n := x) (B := 18446744073709551616) (by decide)).2 h0); have e1 : ZVd x (10000000000000000000 : Int) = some (x / 10000000000000000000, ((x % 10000000000000000000 : Nat) : Int)) := by
        unfold ZVd; rw [if_pos ⟨hx, by omega⟩]; rfl
      have e2 : Zsf ((x % 10000000000000000000 : Nat) : Int) = some (ZDa (x % 10000000000000000000)) := by unfold Zsf; rw [Int.toNat_natCast]
      rw [decide_eq_true (show (0 : Int) < ((Zj 18446744073709551616 x).length : Int) by omega), ZI, e1, Ze]; simp only; rw [e2, Ze]; have hr : (ZDa (x % 10000000000000000000)).length ≤ 19 := Zsp (k := 19) (Nat.mod_lt _ (by decide)); have hb2 : bl (x / 10000000000000000000) + 1 ≤ bl x := by
        rw [Zti h0]; exact Nat.add_le_add_right (Z7c (by omega)) 1
      have hsplit : ∃ p : List UInt8, ifb (decide ((0 : Int) < ((Zj 18446744073709551616 (x / 10000000000000000000)).length : Int))) (bnd (chk .i64 (19 - ((ZDa (x % 10000000000000000000)).length : Int))) fun y218 => bnd (ZJf [48] y218) fun y220 => bnd (Z7b (y220 ++ ZDa (x % 10000000000000000000))) fun y227 => some (y220 ++ ZDa (x % 10000000000000000000))) (some (ZDa (x % 10000000000000000000))) = some p ∧ ZDa (x / 10000000000000000000) ++ p = ZDa x := by
        by_cases hq : x / 10000000000000000000 = 0
        · refine ⟨_, by rw [hq, ZTa]; rfl, ?_⟩; rw [hq, ZUc, List.nil_append]; congr 1; omega
        · have hpos := List.length_pos_iff.2 ((ZEc (n := x / 10000000000000000000) (B := 18446744073709551616) (by decide)).2 hq); obtain ⟨k, hk⟩ : ∃ k, k = 19 - (ZDa (x % 10000000000000000000)).length := ⟨_, rfl⟩; have e3 : chk .i64 (19 - ((ZDa (x % 10000000000000000000)).length : Int)) = some (k : Int) := by rw [show (19 - ((ZDa (x % 10000000000000000000)).length : Int)) = (k : Int) by omega, Zfb (by omega)]
          have e4 : ZJf [48] (k : Int) = some (List.replicate k 48) := by
            unfold ZJf; rw [if_pos ⟨by omega, by simp; omega⟩, Int.toNat_natCast, ZDm]
          refine ⟨List.replicate k 48 ++ ZDa (x % 10000000000000000000), ?_, ?_⟩
          · rw [decide_eq_true (by omega), ZI, e3, Ze, e4, Ze, Zce (by simp; omega), Ze]
          · have := ZHn hq 19 (x % 10000000000000000000) (Nat.mod_lt _ (by decide)); rw [show x / 10000000000000000000 * 10 ^ 19 + x % 10000000000000000000 = x by omega] at this; rw [this, hk]
      obtain ⟨p, ep, hp⟩ := hsplit; rw [ep, Ze, Z9d (by simp; omega), Ze]; refine ⟨_, rfl, ⟨Z7h (Nat.div_le_self _ _) hx, ?_, by simp; omega⟩, by simp only; omega⟩; simp only [List.reverse_append, List.reverse_cons, List.reverse_nil, List.nil_append, List.singleton_append, List.flatten_cons]; rw [← List.append_assoc, hp, he]
  · rintro r ⟨hr, hl, hne⟩; rw [Ze]; by_cases h0 : a = 0
    · subst h0; have : r = [] := by
        have := hl; simp [bl] at this; exact this
      subst this; rfl
    · have hne := hne h0; have hpos : 0 < r.length := List.length_pos_iff.2 hne; have e1 : ((r.length : Int) == 0) = false := beq_false_of_ne (by omega); rw [e1, ZH, Zda (by omega) (by omega), Ze, ZSa]; unfold ZAb; rw [if_neg h0]; refine Zeb (fun s : List UInt8 × Int => ∃ k : Nat, s.2 = (k : Int) - 1 ∧ k ≤ r.length ∧ s.1 = (r.drop k).reverse.flatten) (fun s => (s.2 + 1).toNat) (fun t : List UInt8 => t = ZDa a) ⟨r.length, rfl, by omega, by simp⟩ (ZPa (by simp only; omega)) ?_ ?_
      · rintro ⟨s, i⟩ ⟨k, hi, hk, hs⟩; simp only at hi hs ⊢; subst hi hs; by_cases hk0 : k = 0
        · right; subst hk0; rw [show decide ((0 : Int) ≤ ((0 : Nat) : Int) - 1) = false from rfl, ZH]; exact ⟨_, rfl, by rw [List.drop_zero]; exact hr⟩
        · left; obtain ⟨j, rfl⟩ : ∃ j, k = j + 1 := ⟨k - 1, by omega⟩; have ej : ((j + 1 : Nat) : Int) - 1 = (j : Int) := by omega
          have hj : j < r.length := by omega
          have hnew : (r.drop (j + 1)).reverse.flatten ++ r[j] = (r.drop j).reverse.flatten := by
            rw [List.drop_eq_getElem_cons hj, List.reverse_cons, List.flatten_append]; simp
          have hlen : ((r.drop j).reverse.flatten).length ≤ r.reverse.flatten.length := Z9m r j; rw [hr] at hlen; have e2 : Zhg ((r.drop (j + 1)).reverse.flatten ++ r[j]) = some () := by unfold Zhg; rw [if_pos (by rw [hnew]; omega)]
          rw [ej, decide_eq_true (show (0 : Int) ≤ (j : Int) by omega), ZI, Z2 hj, Ze, e2, Ze, Zda (by omega) (by omega), Ze]; exact ⟨_, rfl, ⟨j, rfl, by omega, hnew⟩, by simp⟩
      · rintro t rfl; rw [Ze, Zce (by omega), Ze]
theorem ZXo {n : Nat} {z : List UInt8} (h : Zvf n = some z) : ZZf n = some z := by
  unfold Zvf at h; split at h
  · rename_i hh; rw [text_eq hh, h]
  · cases h
theorem Z1h {n : Nat} (h : bl n ≤ 4398046511104) : (ZAb n).length ≤ 4398046511104 := by
  unfold ZAb; split
  · simp
  · have := Zji n; omega
theorem ZTn {x : Rat} {z : List UInt8} (h : ZSd x = some z) : Z4i x = some z := by
  unfold ZSd at h; split at h
  · rename_i hh; obtain ⟨h1, h2⟩ := hh
    cases h
    unfold Z4i Zvf; have l1 := Z1h (n := x.num.natAbs) (by omega); have l2 := Z1h (n := x.den) (by omega); rw [if_pos (ZXa (by omega)), Ze]; have e1 : ifb (decide (x.num < 0)) (bnd (Z7b ([45] ++ ZAb x.num.natAbs)) fun y80 => some (([45] : List UInt8) ++ ZAb x.num.natAbs)) (some (ZAb x.num.natAbs)) = some ((if x.num < 0 then [45] else []) ++ ZAb x.num.natAbs) := by
      by_cases h : x.num < 0
      · rw [decide_eq_true h, ZI, Zce (by simp; omega), Ze, if_pos h]
      · rw [decide_eq_false h, ZH, if_neg h]; rfl
    rw [e1, Ze]; unfold txtQ; have l3 : ((if x.num < 0 then [45] else []) ++ ZAb x.num.natAbs : List UInt8).length ≤ 4398046511105 := by
      rw [List.length_append]; split <;> simp <;> omega
    generalize ((if x.num < 0 then [45] else []) ++ ZAb x.num.natAbs : List UInt8) = s at *; by_cases hd : x.den = 1
    · rw [hd]; rw [show Zhb 1 = 0 from rfl, ZTa]; simp [ifb, bnd]
    · have e2 : Zhb x.den = x.den := by unfold Zhb; rw [if_neg hd]
      have hpos := List.length_pos_iff.2 ((ZEc (n := x.den) (B := 18446744073709551616) (by decide)).2 x.den_nz); rw [e2, decide_eq_true (by omega), ZI, if_pos (ZXa (by omega)), Ze, Zce (by simp; omega), Ze, Zce (by simp; omega), Ze, Ze, if_neg hd]; rfl
  · cases h
noncomputable def Zhk (x : Rat) : Option (Bool) :=
 bnd (Zne x) fun a =>
 some (decide (a ≤ (0 : Int)))
noncomputable def Zej (l : (List Rat)) (g : Unit) : Option (Int) :=
 bnd (bnd (Z4 (fun s : Int => match s with
 | a =>
 (ifb (decide (a < (l.length : Int)))
 (bnd (idx l a) fun b =>
 bnd (Zhk b) fun c =>
 ifb (c)
 (some (.inr ((.inl a))))
 (bnd (chk .i64 (a + ((1 : Int)))) fun d =>
 some (.inl d)))
 (some (.inr ((.inr (()))))))) Zfa ((0 : Int)))
 (fun (p : (Int) ⊕ (Unit)) => match p with
 | .inl e =>
 (some ((.inr e)))
 | .inr (()) =>
 (some ((.inl (()))))))
 (fun (p : (Unit) ⊕ (Int)) => match p with
 | .inl (()) =>
 (some ((-1 : Int)))
 | .inr f =>
 (some f))
noncomputable def Z4j (l : (List Rat)) (g : Unit) : Option (Bool) :=
 bnd (Zej l (())) fun a =>
 some (decide ((0 : Int) ≤ a))
noncomputable def Zei (l : (List Rat)) : Option (Bool) :=
 bnd (Z4j l (())) fun a =>
 some (!(a))
noncomputable def ZLj (t : (Rat × (List Rat))) : Option (Int) :=
 bnd (Zei ([t.1])) fun b =>
 ifb (!(b))
 (some ((1 : Int)))
 (bnd (ifb (((t.2.length : Int)) == ((0 : Int)))
 (some true)
 (some (decide ((16 : Int) ≤ (t.2.length : Int)))))
 (fun (c : Bool) =>
 (ifb (c)
 (some ((4 : Int)))
 (bnd (bnd (Z4 (fun s : Int => match s with
 | a =>
 (ifb (decide (a < (t.2.length : Int)))
 (bnd (idx t.2 a) fun d =>
 bnd (ifb (decide ((0 : Int) < a))
 (bnd (chk .i64 (a - ((1 : Int)))) fun e =>
 bnd (idx t.2 e) fun f =>
 bnd (ZDe d f) fun g =>
 some (decide (g ≤ (0 : Int))))
 (some false))
 (fun (h : Bool) =>
 (ifb (h)
 (some (.inr ((.inl ((7 : Int))))))
 (bnd (chk .i64 (a + ((1 : Int)))) fun i =>
 some (.inl i)))))
 (some (.inr ((.inr (()))))))) Zfa ((0 : Int)))
 (fun (p : (Int) ⊕ (Unit)) => match p with
 | .inl j =>
 (some ((.inr j)))
 | .inr (()) =>
 (some ((.inl (()))))))
 (fun (p : (Unit) ⊕ (Int)) => match p with
 | .inl (()) =>
 (some ((0 : Int)))
 | .inr k =>
 (some k))))))
noncomputable def Zbj (y : Rat) (r : Rat) : Option (Bool) :=
 bnd (ZDe y r) fun a =>
 some (decide ((0 : Int) ≤ a))
noncomputable def Zsk (l : (List Rat)) (g : Rat) : Option (Int) :=
 bnd (bnd (Z4 (fun s : Int => match s with
 | a =>
 (ifb (decide (a < (l.length : Int)))
 (bnd (idx l a) fun b =>
 bnd (Zbj b g) fun c =>
 ifb (c)
 (some (.inr ((.inl a))))
 (bnd (chk .i64 (a + ((1 : Int)))) fun d =>
 some (.inl d)))
 (some (.inr ((.inr (()))))))) Zfa ((0 : Int)))
 (fun (p : (Int) ⊕ (Unit)) => match p with
 | .inl e =>
 (some ((.inr e)))
 | .inr (()) =>
 (some ((.inl (()))))))
 (fun (p : (Unit) ⊕ (Int)) => match p with
 | .inl (()) =>
 (some ((-1 : Int)))
 | .inr f =>
 (some f))
noncomputable def Zbk (t : (Rat × (List Rat))) (x : Rat) : Option (Int) :=
 bnd (ZTh x t.1) fun b =>
 bnd (Zsk t.2 b.1) fun a =>
 ifb (decide (a < (0 : Int)))
 (some ((t.2.length : Int)))
 (some a)
noncomputable def Zyk (t : (Rat × (List Rat))) (x : Rat) : Option (Int × Int) :=
 bnd (ZLj ((t.1, t.2))) fun a =>
 ifb (a != ((0 : Int)))
 (some (((0 : Int), a)))
 (bnd (Zbk ((t.1, t.2)) x) fun b =>
 some ((b, (0 : Int))))
noncomputable def ZWj (d : ((Int × Int) × (Int × Int) × (Int × Int))) : Option ((Rat × Rat × Rat) × (Rat × Rat × Rat)) :=
 bnd (Zhe ((d.1.1, d.1.2))) fun a =>
 bnd (Zhe ((d.2.1.1, d.2.1.2))) fun b =>
 bnd (Zhe ((d.2.2.1, d.2.2.2))) fun c =>
 bnd (ZJe ((d.1.1, d.1.2))) fun e =>
 bnd (ZJe ((d.2.1.1, d.2.1.2))) fun f =>
 bnd (ZJe ((d.2.2.1, d.2.2.2))) fun g =>
 some (((a, b, c), (e, f, g)))
noncomputable def Zfd (x : Rat) (y : Rat) : Option (Rat) :=
 bnd (ZTc x y) fun a =>
 some a.1
noncomputable def Z3a (n : Int) : Option (Rat) :=
 bnd (Zrd n) fun a =>
 some a
noncomputable def Zlj (d : (Rat × Rat × Rat)) : Option (Bool) :=
 bnd (Zei ([d.1, d.2.1, d.2.2])) fun a =>
 some a
noncomputable def Zaj (d : (Rat × Rat × Rat)) (x : Rat) (y : Rat) : Option (Rat × Int) :=
 bnd (Zlj ((d.1, d.2.1, d.2.2))) fun a =>
 ifb (!(a))
 (some (((0 : Rat), (1 : Int))))
 (bnd (Z0b x y) fun b =>
 bnd (Z3a ((1 : Int))) fun c =>
 bnd (Zfd d.2.1 d.1) fun e =>
 bnd (Zcc c e) fun f =>
 bnd (ZBb b f) fun g =>
 some ((g, (0 : Int))))
noncomputable def ZHe (i : Int) (k : Int) : Option (Rat) :=
 ifb (i == k)
 (bnd (Z3a ((1 : Int))) fun a =>
 some a)
 (some ((0 : Rat)))
noncomputable def Z2f (t : (List (List Int))) (n : Int) (g : Unit) : Option (Rat × Rat) :=
 bnd (bnd (mk 8 ((t.length : Int)) ((t.length : Int))) fun an =>
 bnd (mk 8 ((t.length : Int)) ((t.length : Int))) fun ao =>
 some (((List.replicate ((t.length : Int)).toNat ((0 : Int))), (List.replicate ((t.length : Int)).toNat ((0 : Int))))))
 (fun (p : (List Int) × (List Int)) => match p with
 | (u, v) =>
 (bnd (bnd (Z4 (fun s : (List Int) × (List Int) × Int => match s with
 | (h, i, a) =>
 (ifb (decide (a < (t.length : Int)))
 (bnd (idx t a) fun j =>
 bnd (bnd (Z4 (fun s : (List Int) × (List Int) × Int => match s with
 | (e, f, b) =>
 (ifb (decide (b < (j.length : Int)))
 (bnd (idx j b) fun k =>
 bnd (idx e a) fun w =>
 bnd (chk .i64 (w + k)) fun x =>
 bnd (idx e a) fun ap =>
 bnd (idx f b) fun y =>
 bnd (chk .i64 (y + k)) fun z =>
 bnd (idx f b) fun aq =>
 bnd (chk .i64 (b + ((1 : Int)))) fun A =>
 some (.inl (((e.set (a).toNat x), (f.set (b).toNat z), A))))
 (some (.inr ((e, f)))))) Zfa ((h, i, (0 : Int))))
 (fun (p : (List Int) × (List Int)) => match p with
 | (B, C) =>
 (some ((B, C)))))
 (fun (p : (List Int) × (List Int)) => match p with
 | (D, E) =>
 (bnd (chk .i64 (a + ((1 : Int)))) fun F =>
 some (.inl ((D, E, F))))))
 (some (.inr ((h, i)))))) Zfa ((u, v, (0 : Int))))
 (fun (p : (List Int) × (List Int)) => match p with
 | (G, H) =>
 (some ((G, H)))))
 (fun (p : (List Int) × (List Int)) => match p with
 | (I, J) =>
 (bnd (bnd (Z4 (fun s : Rat × Rat × Int => match s with
 | (l, m, c) =>
 (ifb (decide (c < (t.length : Int)))
 (bnd (idx t c) fun o =>
 bnd (bnd (Z4 (fun s : Rat × Rat × Int => match s with
 | (q, r, d) =>
 (ifb (decide (d < (o.length : Int)))
 (bnd (idx o d) fun K =>
 bnd (ZHe c d) fun L =>
 bnd (Z3a K) fun M =>
 bnd (ZBb L M) fun N =>
 bnd (Zcc q N) fun O =>
 bnd (ZHe c d) fun P =>
 bnd (idx I c) fun Q =>
 bnd (Z3a Q) fun R =>
 bnd (ZBb P R) fun S =>
 bnd (idx J d) fun T =>
 bnd (Z3a T) fun U =>
 bnd (ZBb S U) fun V =>
 bnd (Zcc r V) fun W =>
 bnd (chk .i64 (d + ((1 : Int)))) fun X =>
 some (.inl ((O, W, X))))
 (some (.inr ((q, r)))))) Zfa ((l, m, (0 : Int))))
 (fun (p : Rat × Rat) => match p with
 | (Y, Z) =>
 (some ((Y, Z)))))
 (fun (p : Rat × Rat) => match p with
 | (aa, ab) =>
 (bnd (chk .i64 (c + ((1 : Int)))) fun ac =>
 some (.inl ((aa, ab, ac))))))
 (some (.inr ((l, m)))))) Zfa (((0 : Rat), (0 : Rat), (0 : Int))))
 (fun (p : Rat × Rat) => match p with
 | (ad, ae) =>
 (some ((ad, ae)))))
 (fun (p : Rat × Rat) => match p with
 | (af, ag) =>
 (bnd (Z3a n) fun ah =>
 bnd (Zfd af ah) fun ai =>
 bnd (Z3a n) fun aj =>
 bnd (Z3a n) fun ak =>
 bnd (ZBb aj ak) fun al =>
 bnd (Zfd ag al) fun am =>
 some ((ai, am))))))))
noncomputable def ZSi (r : (List Int)) (t : (List (List Int))) : Option (Bool) :=
 some (((r.length : Int)) != ((t.length : Int)))
noncomputable def ZYh (l : (List (List Int))) (g : (List (List Int))) : Option (Int) :=
 bnd (bnd (Z4 (fun s : Int => match s with
 | a =>
 (ifb (decide (a < (l.length : Int)))
 (bnd (idx l a) fun b =>
 bnd (ZSi b g) fun c =>
 ifb (c)
 (some (.inr ((.inl a))))
 (bnd (chk .i64 (a + ((1 : Int)))) fun d =>
 some (.inl d)))
 (some (.inr ((.inr (()))))))) Zfa ((0 : Int)))
 (fun (p : (Int) ⊕ (Unit)) => match p with
 | .inl e =>
 (some ((.inr e)))
 | .inr (()) =>
 (some ((.inl (()))))))
 (fun (p : (Unit) ⊕ (Int)) => match p with
 | .inl (()) =>
 (some ((-1 : Int)))
 | .inr f =>
 (some f))
noncomputable def ZNf (l : (List (List Int))) (g : (List (List Int))) : Option (Bool) :=
 bnd (ZYh l g) fun a =>
 some (decide ((0 : Int) ≤ a))
noncomputable def ZVe (t : (List (List Int))) : Option (Int × Int) :=
 bnd (ifb (((t.length : Int)) == ((0 : Int)))
 (some ((t, true)))
 (ifb (decide ((8 : Int) < (t.length : Int)))
 (some ((t, true)))
 (bnd (ZNf t t) fun i =>
 some ((t, i)))))
 (fun (p : (List (List Int)) × Bool) => match p with
 | (d, j) =>
 (ifb (j)
 (some (((0 : Int), (4 : Int))))
 (bnd (bnd (Z4 (fun s : Int × Int => match s with
 | (e, a) =>
 (ifb (decide (a < (d.length : Int)))
 (bnd (idx d a) fun f =>
 bnd (bnd (Z4 (fun s : Int × Int => match s with
 | (g, b) =>
 (ifb (decide (b < (f.length : Int)))
 (bnd (idx f b) fun c =>
 bnd (ifb (decide (c < (0 : Int)))
 (some true)
 (some (decide ((1000000 : Int) < c))))
 (fun (k : Bool) =>
 (ifb (k)
 (some (.inr ((.inl (((0 : Int), (1 : Int)))))))
 (bnd (chk .i64 (g + c)) fun l =>
 bnd (chk .i64 (b + ((1 : Int)))) fun m =>
 some (.inl ((l, m)))))))
 (some (.inr ((.inr g)))))) Zfa ((e, (0 : Int))))
 (fun (p : (Int × Int) ⊕ (Int)) => match p with
 | .inl ((n, o)) =>
 (some ((.inr ((n, o)))))
 | .inr q =>
 (some ((.inl q)))))
 (fun (p : (Int) ⊕ (Int × Int)) => match p with
 | .inl r =>
 (bnd (chk .i64 (a + ((1 : Int)))) fun u =>
 some (.inl ((r, u))))
 | .inr ((v, w)) =>
 (some (.inr ((.inl ((v, w))))))))
 (some (.inr ((.inr e)))))) Zfa (((0 : Int), (0 : Int))))
 (fun (p : (Int × Int) ⊕ (Int)) => match p with
 | .inl ((x, y)) =>
 (some ((.inr ((x, y)))))
 | .inr z =>
 (some ((.inl z)))))
 (fun (p : (Int) ⊕ (Int × Int)) => match p with
 | .inl h =>
 (ifb (h == ((0 : Int)))
 (some (((0 : Int), (3 : Int))))
 (some ((h, (0 : Int)))))
 | .inr ((A, B)) =>
 (some ((A, B)))))))
noncomputable def Zri (t : (List (List Int))) (g : Unit) : Option (Rat × Int) :=
 bnd (ZVe t) fun a =>
 ifb (a.2 != ((0 : Int)))
 (some (((0 : Rat), a.2)))
 (bnd (Z2f t a.1 (())) fun b =>
 bnd (bnd (Z0b b.1 b.2) fun d =>
 bnd (Z3a ((1 : Int))) fun e =>
 bnd (Z0b e b.2) fun f =>
 bnd (ZTc d f) fun c =>
 some ((c.2, c.1)))
 (fun (p : Int × Rat) => match p with
 | (h, i) =>
 (ifb (h != ((0 : Int)))
 (some (((0 : Rat), (5 : Int))))
 (some ((i, (0 : Int)))))))
noncomputable def ZPg (t : (List (List Int))) : Option (Rat × Int) :=
 bnd (Zri t (())) fun a =>
 some ((a.1, a.2))
noncomputable def Z5j (l : (List (Int × Int))) : Option ((List Rat) × (List Rat)) :=
 bnd (bnd (Z4 (fun s : (List Rat) × (List Rat) × Int => match s with
 | (b, c, d) =>
 (ifb (decide (d < (l.length : Int)))
 (bnd (idx l d) fun a =>
 bnd (Zhe ((a.1, a.2))) fun e =>
 bnd (Zxb 56 (b ++ [e])) fun m =>
 bnd (ZJe ((a.1, a.2))) fun f =>
 bnd (Zxb 56 (c ++ [f])) fun n =>
 bnd (chk .i64 (d + ((1 : Int)))) fun g =>
 some (.inl (((b ++ [e]), (c ++ [f]), g))))
 (some (.inr ((b, c)))))) Zfa ((([] : (List Rat)), ([] : (List Rat)), (0 : Int))))
 (fun (p : (List Rat) × (List Rat)) => match p with
 | (h, i) =>
 (some ((h, i)))))
 (fun (p : (List Rat) × (List Rat)) => match p with
 | (j, k) =>
 (some ((j, k))))
noncomputable def Zqj (step : (Int × Int)) (limits : (List (Int × Int))) : Option ((Rat × (List Rat)) × (Rat × (List Rat))) :=
 bnd (Z5j limits) fun a =>
 bnd (Zhe ((step.1, step.2))) fun b =>
 bnd (ZJe ((step.1, step.2))) fun c =>
 some (((b, a.1), (c, a.2)))
noncomputable def ZYe  : Option (Bool) :=
 bnd (ZWj ((((2 : Int), (0 : Int)), ((1 : Int), (2 : Int)), ((4000 : Int), (0 : Int))))) fun a =>
 bnd (bnd (Zrd ((48 : Int))) fun f =>
 bnd (Zrd ((8 : Int))) fun g =>
 bnd (Zaj ((a.1.1, a.1.2.1, a.1.2.2)) f g) fun b =>
 some ((b.1, b.2)))
 (fun (p : Rat × Int) => match p with
 | (h, i) =>
 (bnd (ZPg ([[(20 : Int), (5 : Int)], [(10 : Int), (15 : Int)]])) fun c =>
 bnd (Zqj (((1 : Int), (10 : Int))) ([((1 : Int), (0 : Int)), ((2 : Int), (0 : Int))])) fun d =>
 bnd (Zhe (((206 : Int), (100 : Int)))) fun j =>
 bnd (Zyk ((d.1.1, d.1.2)) j) fun e =>
 bnd (ifb (i == ((0 : Int)))
 (ifb (c.2 == ((0 : Int)))
 (ifb (e.2 == ((0 : Int)))
 (bnd (ZSd h) fun k =>
 ifb (k == (([53, 48] : List UInt8)))
 (bnd (ZSd c.1) fun l =>
 ifb (l == (([50, 47, 53] : List UInt8)))
 (some (e.1 == ((2 : Int))))
 (some false))
 (some false))
 (some false))
 (some false))
 (some false))
 (fun (m : Bool) =>
 (some m))))
def sz (k : Nat) (x : Rat) : Prop := bl x.num.natAbs ≤ k ∧ bl x.den ≤ k
theorem sz.mono {k m : Nat} {x : Rat} (h : sz k x) (hk : k ≤ m) : sz m x := ⟨by have := h.1; omega, by have := h.2; omega⟩
theorem sz.ok {k : Nat} {x : Rat} (h : sz k x) (hk : k ≤ 1099511627776) : okQ x := ⟨by have := h.1; omega, by have := h.2; omega⟩
theorem sz.sm {k : Nat} {x : Rat} (h : sz k x) (hk : k ≤ 68719476736) : smQ x := ⟨by have := h.1; omega, by have := h.2; omega⟩
theorem ZMm {k m : Nat} {x y : Rat} (h : sz k x) (h' : sz m y) : sz (k + m + 1) (x + y) := by
  have := ZDl x y; obtain ⟨a, b⟩ := h; obtain ⟨c, d⟩ := h'; exact ⟨by omega, by omega⟩
theorem Zif {k m : Nat} {x y : Rat} (h : sz k x) (h' : sz m y) : sz (k + m + 1) (x - y) := by
  have := Z7l x y; obtain ⟨a, b⟩ := h; obtain ⟨c, d⟩ := h'; exact ⟨by omega, by omega⟩
theorem ZZc {k m : Nat} {x y : Rat} (h : sz k x) (h' : sz m y) : sz (k + m) (x * y) := by
  have := Z6m x y; obtain ⟨a, b⟩ := h; obtain ⟨c, d⟩ := h'; exact ⟨by omega, by omega⟩
theorem ZOf {k m : Nat} {x y : Rat} (h : sz k x) (h' : sz m y) : sz (k + m + 1) (x / y) := by
  have := Zsl (x := x) (y := y); obtain ⟨a, b⟩ := h; obtain ⟨c, d⟩ := h'; exact ⟨by omega, by omega⟩
theorem Z5b {n : Int} (h : -9223372036854775808 ≤ n ∧ n ≤ 9223372036854775807) : sz 64 (n : Rat) := by
  have h2 := Zpj n; have h3 : bl n.natAbs ≤ 64 := ZMc (show n.natAbs < 2 ^ 64 by omega); exact ⟨by omega, by omega⟩
def i64 (r : Int × Int) : Prop := (-9223372036854775808 ≤ r.1 ∧ r.1 ≤ 9223372036854775807) ∧ (-9223372036854775808 ≤ r.2 ∧ r.2 ≤ 9223372036854775807)
theorem Zmm {k m : Nat} {x y : Rat} (h : sz k x) (h' : sz m y) (hk : k + m ≤ 1000000000) : Zcc x y = some (x + y) := by unfold Zcc; rw [if_pos ⟨h.ok (by omega), h'.ok (by omega)⟩]
theorem Z2j {k m : Nat} {x y : Rat} (h : sz k x) (h' : sz m y) (hk : k + m ≤ 1000000000) : Z0b x y = some (x - y) := by unfold Z0b; rw [if_pos ⟨h.ok (by omega), h'.ok (by omega)⟩]
theorem ZDi {k m : Nat} {x y : Rat} (h : sz k x) (h' : sz m y) (hk : k + m ≤ 1000000000) : ZBb x y = some (x * y) := by unfold ZBb; rw [if_pos ⟨h.ok (by omega), h'.ok (by omega)⟩]
theorem qdiv_ok {k m : Nat} {x y : Rat} (h : sz k x) (h' : sz m y) (hk : k + m ≤ 1000000000) (hy : y ≠ 0) : ZTc x y = some (x / y, 0) := by unfold ZTc; rw [if_pos ⟨h.ok (by omega), h'.ok (by omega)⟩, if_neg hy]
def decG : Nat → Nat → List UInt8
  | 0, _ => []
  | k + 1, n => if n = 0 then [] else decG k (n / 10) ++ [UInt8.ofNat (48 + n % 10)]
theorem Zwj : ∀ (k n : Nat), n ≤ k → decG k n = ZDa n
  | 0, n, h => by
    have : n = 0 := by omega
    subst this; rw [ZUc]; rfl
  | k + 1, n, h => by
    by_cases h0 : n = 0
    · subst h0; rw [ZUc]; rfl
    · rw [ZMe h0, decG, if_neg h0, Zwj k (n / 10) (by omega)]
def txtG (x : Rat) : List UInt8 := (if x.num < 0 then [45] else []) ++ (if x.num.natAbs = 0 then [48] else decG x.num.natAbs x.num.natAbs) ++ (if x.den = 1 then [] else 47 :: (if x.den = 0 then [48] else decG x.den x.den))
theorem txtG_eq : txtG = txtQ := by
  funext x
  unfold txtG txtQ ZAb; rw [Zwj _ _ (Nat.le_refl _), Zwj _ _ (Nat.le_refl _)]
def Z3l (x : Rat) : Option (List UInt8) := if okQ x then some (txtG x) else none
theorem ZOn : ZSd = Z3l := by
  funext x
  unfold ZSd Z3l; rw [txtG_eq]
set_option maxRecDepth 100000 in
theorem Zmn : ZYe = some true := by
  unfold ZYe; rw [ZOn]; decide +kernel
noncomputable def ZRg (t : (List (List Int))) : Option (Int) :=
 bnd (ifb (decide ((t.length : Int) < (1 : Int)))
 (some true)
 (some (decide ((8 : Int) < (t.length : Int)))))
 (fun (f : Bool) =>
 (ifb (f)
 (some ((4 : Int)))
 (bnd (bnd (Z4 (fun s : Int => match s with
 | c =>
 (ifb (decide (c < (t.length : Int)))
 (bnd (idx t c) fun g =>
 ifb (((g.length : Int)) != ((t.length : Int)))
 (some (.inr ((.inl ((4 : Int))))))
 (bnd (chk .i64 (c + ((1 : Int)))) fun h =>
 some (.inl h)))
 (some (.inr ((.inr (()))))))) Zfa ((0 : Int)))
 (fun (p : (Int) ⊕ (Unit)) => match p with
 | .inl i =>
 (some ((.inr i)))
 | .inr (()) =>
 (some ((.inl (()))))))
 (fun (p : (Unit) ⊕ (Int)) => match p with
 | .inl (()) =>
 (bnd (bnd (Z4 (fun s : Bool × Int => match s with
 | (d, a) =>
 (ifb (decide (a < (t.length : Int)))
 (bnd (bnd (Z4 (fun s : Bool × Int => match s with
 | (e, b) =>
 (ifb (decide (b < (t.length : Int)))
 (bnd (bnd (idx t a) fun j =>
 bnd (idx j b) fun k =>
 ifb (decide (k < (0 : Int)))
 (some true)
 (bnd (idx t a) fun l =>
 bnd (idx l b) fun m =>
 some (decide ((1000000 : Int) < m))))
 (fun (n : Bool) =>
 (ifb (n)
 (some (.inr ((.inl ((1 : Int))))))
 (bnd (ifb (e)
 (bnd (idx t a) fun o =>
 bnd (idx o b) fun q =>
 some (q == ((0 : Int))))
 (some false))
 (fun (r : Bool) =>
 (bnd (chk .i64 (b + ((1 : Int)))) fun u =>
 some (.inl ((r, u)))))))))
 (some (.inr ((.inr e)))))) Zfa ((d, (0 : Int))))
 (fun (p : (Int) ⊕ (Bool)) => match p with
 | .inl v =>
 (some ((.inr v)))
 | .inr w =>
 (some ((.inl w)))))
 (fun (p : (Bool) ⊕ (Int)) => match p with
 | .inl x =>
 (bnd (chk .i64 (a + ((1 : Int)))) fun y =>
 some (.inl ((x, y))))
 | .inr z =>
 (some (.inr ((.inl z))))))
 (some (.inr ((.inr d)))))) Zfa ((true, (0 : Int))))
 (fun (p : (Int) ⊕ (Bool)) => match p with
 | .inl A =>
 (some ((.inr A)))
 | .inr B =>
 (some ((.inl B)))))
 (fun (p : (Bool) ⊕ (Int)) => match p with
 | .inl C =>
 (ifb (C)
 (some ((3 : Int)))
 (some ((0 : Int))))
 | .inr D =>
 (some D)))
 | .inr E =>
 (some E)))))
theorem Z6a {α β : Type} {x : Option α} {y : α} {f : α → Option β} {z : Option β} (h : x = some y) (h2 : f y = z) : bnd x f = z := by subst h; rw [Ze]; exact h2
theorem ZRb {S R : Type} {body : S → Option (S ⊕ R)} {s : S} {r : R} (st : Nat → S) (n : Nat) (h0 : st 0 = s) (hn : n < 2 ^ 64) (h : ∀ k, k < n → body (st k) = some (.inl (st (k + 1)))) (he : body (st n) = some (.inr r)) : Z4 body Zfa s = some r := by
  have key : ∀ m f k, k + m = n → m < f → Z4 body f (st k) = some r := by
    intro m
    induction m with
    | zero =>
      intro f k hk hf; obtain ⟨f, rfl⟩ : ∃ g, f = g + 1 := ⟨f - 1, by omega⟩; obtain rfl : k = n := by omega
      unfold Z4; rw [he, Ze]
    | succ m ih =>
      intro f k hk hf; obtain ⟨f, rfl⟩ : ∃ g, f = g + 1 := ⟨f - 1, by omega⟩; unfold Z4; rw [h k (by omega), Ze]; exact ih f (k + 1) (by omega) (by omega)
  rw [← h0]; exact key n Zfa 0 (by omega) (ZPa (by omega))
def bad (x : Int) : Bool := decide (x < 0) || decide (1000000 < x)
theorem ZCm (x : Int) : ifb (decide (x < 0)) (some true) (some (decide (1000000 < x))) = some (bad x) := by
  unfold bad; by_cases h : x < 0
  · rw [decide_eq_true h, ZI]; rfl
  · rw [decide_eq_false h, ZH]; rfl
theorem Z9i {x : Int} (h : bad x = false) : 0 ≤ x ∧ x ≤ 1000000 := by
  unfold bad at h; simp at h; omega
theorem Zcg (l : List Int) {k : Nat} (h : k < l.length) : (l.take (k + 1)).sum = (l.take k).sum + l[k] := by
  rw [List.take_succ_eq_append_getElem h, List.sum_append]; simp
theorem Z4e {l : List Int} : ∀ (k : Nat), (∀ j, (h : j < l.length) → j < k → bad l[j] = false) → k ≤ l.length → 0 ≤ (l.take k).sum ∧ (l.take k).sum ≤ 1000000 * k
  | 0, _, _ => by simp
  | k + 1, h, hk => by
    have ih := Z4e k (fun j hj hjk => h j hj (by omega)) (by omega)
    have := Z9i (h k (by omega) (by omega))
    rw [Zcg l (by omega)]
    omega
theorem ZNl {l : List Int} (h : l.any bad = true) : ∃ m, ∃ hm : m < l.length, bad l[m] = true ∧ ∀ j, (h : j < l.length) → j < m → bad l[j] = false := by
  have hm : l.findIdx bad < l.length := List.findIdx_lt_length.2 (List.any_eq_true.1 h); exact ⟨l.findIdx bad, hm, List.findIdx_getElem, fun j hj hjm => by
    have := List.not_of_lt_findIdx hjm
    simpa using this⟩
theorem Z5e {l : List Int} (h : l.any bad = false) : ∀ j, (hj : j < l.length) → bad l[j] = false := fun j hj => by
  rw [List.any_eq_false] at h
  simpa using h l[j] (List.getElem_mem hj)
theorem Z3o {l : List Int} {x : Int} {body : Int × Int → Option ((Int × Int) ⊕ ((Int × Int) ⊕ Int))} (hl : l.length ≤ 8) (h0 : 0 ≤ x) (hx : x ≤ 1000000000)
    (hb : ∀ (s : Int) (k : Nat), (hk : k < l.length) → 0 ≤ s → s ≤ 2000000000 → body (s, (k : Int)) = if bad l[k] then some (.inr (.inl (0, 1))) else some (.inl (s + l[k], (k : Int) + 1)))
    (he : ∀ s, body (s, (l.length : Int)) = some (.inr (.inr s))) : Z4 body Zfa (x, 0) = some (if l.any bad then .inl (0, 1) else .inr (x + l.sum)) := by
  by_cases h : l.any bad = true
  · rw [if_pos h]; obtain ⟨m, hm, h1, h2⟩ := ZNl h; refine ZRb (fun k => (x + (l.take k).sum, (k : Int))) m (by simp) (by omega) (fun k hk => ?_) ?_
    · have hs := Z4e k (fun j hj hjk => h2 j hj (by omega)) (by omega); rw [hb _ k (by omega) (by omega) (by omega), h2 k (by omega) hk, if_neg (by simp), Zcg l (by omega), Int.add_assoc]; rfl
    · have hs := Z4e m h2 (by omega); rw [hb _ m hm (by omega) (by omega), h1, if_pos rfl]
  · have h' : l.any bad = false := by simpa using h
    rw [if_neg h]; have h2 := Z5e h'; refine ZRb (fun k => (x + (l.take k).sum, (k : Int))) l.length (by simp) (by omega) (fun k hk => ?_) ?_
    · have hs := Z4e k (fun j hj hjk => h2 j hj) (by omega); rw [hb _ k hk (by omega) (by omega), h2 k hk, if_neg (by simp), Zcg l hk, Int.add_assoc]; rfl
    · rw [he, List.take_length]
def okT (t : List (List Int)) : Bool := !(t.length == 0 || decide (8 < t.length) || t.any fun r => (r.length : Int) != (t.length : Int))
def tot (t : List (List Int)) (k : Nat) : Int := ((t.take k).map List.sum).sum
theorem ZRl (t : List (List Int)) : tot t 0 = 0 := rfl
theorem Zbh (t : List (List Int)) {k : Nat} (h : k < t.length) : tot t (k + 1) = tot t k + t[k].sum := by
  unfold tot; rw [List.take_succ_eq_append_getElem h, List.map_append, List.sum_append]; simp
def ZRa (t : List (List Int)) : Int := tot t t.length
def Zid (t : List (List Int)) : Int × Int := if okT t then if t.any (·.any bad) then (0, 1) else if ZRa t = 0 then (0, 3) else (ZRa t, 0) else (0, 4)
theorem Zmi {α : Type} {p : α → Bool} {l : List α} (h : l.any p = true) : ∃ m, ∃ hm : m < l.length, p l[m] = true ∧ ∀ j, (h : j < l.length) → j < m → p l[j] = false := by
  have hm : l.findIdx p < l.length := List.findIdx_lt_length.2 (List.any_eq_true.1 h); exact ⟨l.findIdx p, hm, List.findIdx_getElem, fun j hj hjm => by
    have := List.not_of_lt_findIdx hjm
    simpa using this⟩
theorem ZWd {α : Type} {p : α → Bool} {l : List α} (h : l.any p = false) : ∀ j, (hj : j < l.length) → p l[j] = false := fun j hj => by
  rw [List.any_eq_false] at h
  simpa using h l[j] (List.getElem_mem hj)
theorem Zam {l : List Int} (h : l.any bad = false) (hl : l.length ≤ 8) : 0 ≤ l.sum ∧ l.sum ≤ 8000000 := by
  have h1 := Z5e h; have h2 := Z4e (l := l) l.length (fun j hj _ => h1 j hj) (Nat.le_refl _); rw [List.take_length] at h2; omega
theorem ZPe {t : List (List Int)} (hw : ∀ r ∈ t, r.length ≤ 8) : ∀ (k : Nat), (∀ j, (h : j < t.length) → j < k → t[j].any bad = false) → k ≤ t.length → 0 ≤ tot t k ∧ tot t k ≤ 8000000 * k
  | 0, _, _ => by simp [ZRl]
  | k + 1, h, hk => by
    have ih := ZPe hw k (fun j hj hjk => h j hj (by omega)) (by omega)
    have h1 := Zam (h k (by omega) (by omega)) (hw t[k] (List.getElem_mem (by omega)))
    rw [Zbh t (by omega)]
    omega
theorem Zbn (t u : List (List Int)) (hl : t.length ≤ 9223372036854775807) : ZNf t u = some (t.any fun r => (r.length : Int) != (u.length : Int)) := by
  unfold ZNf ZYh ZSi; rw [ZSa, ZSa]; by_cases h : (t.any fun r => (r.length : Int) != (u.length : Int)) = true
  · obtain ⟨m, hm, h1, h2⟩ := Zmi h; rw [h]; refine Z6a (ZRb (r := .inl (m : Int)) (fun k => (k : Int)) m rfl (by omega) (fun k hk => ?_) ?_) ?_
    · simp only; rw [decide_eq_true (by omega), ZI, Z2 (by omega), Ze, Ze, h2 k (by omega) hk, ZH, Zda (by omega) (by omega), Ze]; rfl
    · simp only; rw [decide_eq_true (by omega), ZI, Z2 (by omega), Ze, Ze, h1, ZI]
    · simp only [Ze]; exact congrArg some (decide_eq_true (by omega))
  · have h' : (t.any fun r => (r.length : Int) != (u.length : Int)) = false := by simpa using h
    have h2 := ZWd h'; rw [h']; refine Z6a (ZRb (r := .inr ()) (fun k => (k : Int)) t.length rfl (by omega) (fun k hk => ?_) ?_) ?_
    · simp only; rw [decide_eq_true (by omega), ZI, Z2 (by omega), Ze, Ze, h2 k hk, ZH, Zda (by omega) (by omega), Ze]; rfl
    · simp only; rw [decide_eq_false (by omega), ZH]
    · rfl
theorem Zwl {t : List (List Int)} (h : okT t = true) : 0 < t.length ∧ t.length ≤ 8 ∧ ∀ r ∈ t, r.length = t.length := by
  unfold okT at h; simp at h; obtain ⟨⟨h1, h2⟩, h3⟩ := h; refine ⟨?_, by omega, fun r hr => by have := h3 r hr; omega⟩
  cases t with
  | nil => simp at h1
  | cons a l => simp
theorem ZUn (t : List (List Int)) (hl : t.length ≤ 9223372036854775807) : ZVe t = some (Zid t) := by
  unfold ZVe; have e1 : ifb (((t.length : Int)) == ((0 : Int))) (some ((t, true))) (ifb (decide ((8 : Int) < (t.length : Int))) (some ((t, true))) (bnd (ZNf t t) fun y189 => some ((t, y189)))) = some (t, !okT t) := by
    rw [Zbn t t hl, Ze]; unfold okT; rw [Bool.not_not]; by_cases h1 : t.length = 0
    · rw [h1]; simp [ifb]
    · have : ((t.length : Int) == (0 : Int)) = false := by simp; intro h; exact h1 (by simp [h])
      have h1' : (t.length == 0) = false := by simpa using h1
      rw [this, ZH, h1']; by_cases h2 : 8 < t.length
      · rw [decide_eq_true (by omega), ZI, decide_eq_true h2]; simp
      · rw [decide_eq_false (by omega), ZH, decide_eq_false h2]; simp
  rw [e1, Ze]; simp only; unfold Zid; by_cases hk : okT t = true
  · obtain ⟨n0, n8, hr⟩ := Zwl hk; have hw : ∀ r ∈ t, r.length ≤ 8 := fun r h => by rw [hr r h]; exact n8
    rw [hk, Bool.not_true, ZH, if_pos rfl]; have step : ∀ k, (hk : k < t.length) → 0 ≤ tot t k → tot t k ≤ 1000000000 → _ := fun k hk s0 s1 => Z3o (l := t[k]) (hw _ (List.getElem_mem _)) s0 s1
      (body := fun s : Int × Int => match s with
  | (x120, x122) =>
  (ifb (decide (x122 < (t[k].length : Int)))
  (bnd (idx t[k] x122) fun y147 =>
  bnd (ifb (decide (y147 < (0 : Int)))
  (some true)
  (some (decide ((1000000 : Int) < y147))))
  (fun (x166 : Bool) =>
  (ifb (x166)
  (some (.inr ((.inl (((0 : Int), (1 : Int)))))))
  (bnd (chk .i64 (x120 + y147)) fun y177 =>
  bnd (chk .i64 (x122 + ((1 : Int)))) fun y179 =>
  some (.inl ((y177, y179)))))))
  (some (.inr ((.inr x120)))))) (fun s j hj h0 h1 => by
        simp only; rw [decide_eq_true (by omega), ZI, Z2 hj, Ze, ZCm, Ze]; by_cases hb : bad t[k][j] = true
        · rw [hb, ZI, if_pos rfl]
        · have hb' : bad t[k][j] = false := by simpa using hb
          have := Z9i hb'; have := hw _ (List.getElem_mem hk); rw [hb', ZH, if_neg (by simp), Zda (by omega) (by omega), Ze, Zda (by omega) (by omega), Ze]) (fun s => by
        simp only; rw [decide_eq_false (by omega), ZH])
    by_cases hb : (t.any (·.any bad)) = true
    · rw [if_pos hb]; obtain ⟨m, hm, h1, h2⟩ := Zmi hb; refine Z6a (y := .inr ((0 : Int), (1 : Int))) (Z6a (ZRb (r := .inl ((0 : Int), (1 : Int))) (fun k => (tot t k, (k : Int))) m rfl (by omega) (fun k hk => ?_) ?_) rfl) rfl
      · have hs := ZPe hw k (fun j hj hjk => h2 j hj (by omega)) (by omega); simp only; rw [decide_eq_true (by omega), ZI, Z2 (by omega), Ze, step k (by omega) hs.1 (by omega), Ze, if_neg (by rw [h2 k (by omega) hk]; simp)]; simp only; rw [Ze]; simp only; rw [Zda (by omega) (by omega), Ze, Zbh t (by omega)]; rfl
      · have hs := ZPe hw m h2 (by omega); simp only; rw [decide_eq_true (by omega), ZI, Z2 (by omega), Ze, step m hm hs.1 (by omega), Ze, if_pos h1]; simp only; rw [Ze]
    · have hb' : (t.any (·.any bad)) = false := by simpa using hb
      have h2 := ZWd hb'; have hs := ZPe hw t.length (fun j hj _ => h2 j hj) (Nat.le_refl _); rw [if_neg hb]; refine Z6a (y := .inl (ZRa t)) (Z6a (ZRb (r := .inr (ZRa t)) (fun k => (tot t k, (k : Int))) t.length rfl (by omega) (fun k hk => ?_) ?_) rfl) ?_
      · have hs := ZPe hw k (fun j hj hjk => h2 j hj) (by omega); simp only; rw [decide_eq_true (by omega), ZI, Z2 (by omega), Ze, step k (by omega) hs.1 (by omega), Ze, if_neg (by rw [h2 k (by omega)]; simp)]; simp only; rw [Ze]; simp only; rw [Zda (by omega) (by omega), Ze, Zbh t (by omega)]; rfl
      · simp only; rw [decide_eq_false (by omega), ZH]; rfl
      · simp only; by_cases h0 : ZRa t = 0
        · rw [h0]; rfl
        · rw [if_neg h0]; have : (ZRa t == (0 : Int)) = false := by simpa using h0
          rw [this, ZH]
  · have : okT t = false := by simpa using hk
    rw [this, Bool.not_false, ZI, if_neg (by simp)]
theorem Zrf {α : Type} (p : α → Bool) (l : List α) {k : Nat} (h : k < l.length) : (l.take (k + 1)).all p = ((l.take k).all p && p l[k]) := by
  rw [List.take_succ_eq_append_getElem h, List.all_append]; simp
theorem Zmp {l : List Int} (h : l.any bad = false) : l.sum = 0 ↔ l.all (· == 0) = true := by
  have key : ∀ k, k ≤ l.length → ((l.take k).sum = 0 ↔ (l.take k).all (· == 0) = true) := by
    intro k
    induction k with
    | zero => simp
    | succ k ih =>
      intro hk; have ih := ih (by omega); have b1 := Z4e (l := l) k (fun j hj _ => Z5e h j hj) (by omega); have b2 := Z9i (Z5e h k (by omega)); rw [Zcg l (by omega), Zrf _ l (by omega), Bool.and_eq_true, ← ih, beq_iff_eq]; omega
  have := key l.length (Nat.le_refl _)
  rwa [List.take_length] at this
theorem Z9o {t : List (List Int)} (hw : ∀ r ∈ t, r.length ≤ 8) (h : t.any (·.any bad) = false) : ZRa t = 0 ↔ t.all (·.all (· == 0)) = true := by
  have key : ∀ k, k ≤ t.length → (tot t k = 0 ↔ (t.take k).all (·.all (· == 0)) = true) := by
    intro k
    induction k with
    | zero => simp [ZRl]
    | succ k ih =>
      intro hk; have ih := ih (by omega); have b1 := ZPe hw k (fun j hj _ => ZWd h j hj) (by omega); have b3 := ZWd h k (by omega); have b2 := Zam b3 (hw _ (List.getElem_mem (by omega))); rw [Zbh t (by omega), Zrf _ t (by omega), Bool.and_eq_true, ← ih, ← Zmp b3]; omega
  have := key t.length (Nat.le_refl _); rw [List.take_length] at this; exact this
theorem Zkq (t : List (List Int)) (hl : t.length ≤ 9223372036854775807) : ZRg t = some (Zid t).2 := by
  unfold ZRg; unfold Zid; have e1 : ifb (decide ((t.length : Int) < (1 : Int))) (some true) (some (decide ((8 : Int) < (t.length : Int)))) = some (t.length == 0 || decide (8 < t.length)) := by
    by_cases h1 : t.length = 0
    · rw [h1]; rfl
    · have h1' : (t.length == 0) = false := by simpa using h1
      rw [decide_eq_false (by omega), ZH, h1', Bool.false_or]; exact congrArg some (decide_eq_decide.2 (by omega))
  rw [e1, Ze]; by_cases h0 : (t.length == 0 || decide (8 < t.length)) = true
  · have : okT t = false := by unfold okT; rw [h0]; rfl
    rw [h0, ZI, this]; rfl
  · have h0' : (t.length == 0 || decide (8 < t.length)) = false := by simpa using h0
    have hok : okT t = !(t.any fun r => (r.length : Int) != (t.length : Int)) := by unfold okT; rw [h0', Bool.false_or]
    have n8 : t.length ≤ 8 := by simp at h0'; omega
    rw [h0', ZH]; by_cases h : (t.any fun r => (r.length : Int) != (t.length : Int)) = true
    · obtain ⟨m, hm, h1, h2⟩ := Zmi h; rw [hok, h]; refine Z6a (y := .inr (4 : Int)) (Z6a (ZRb (r := .inl (4 : Int)) (fun k => (k : Int)) m rfl (by omega) (fun k hk => ?_) ?_) rfl) rfl
      · simp only; rw [decide_eq_true (by omega), ZI, Z2 (by omega), Ze, h2 k (by omega) hk, ZH, Zda (by omega) (by omega), Ze]; rfl
      · simp only; rw [decide_eq_true (by omega), ZI, Z2 (by omega), Ze, h1, ZI]
    · have h' : (t.any fun r => (r.length : Int) != (t.length : Int)) = false := by simpa using h
      have h2 := ZWd h'; have hr : ∀ k, (hk : k < t.length) → t[k].length = t.length := fun k hk => by
        have := h2 k hk; simp at this; omega
      have hw : ∀ r ∈ t, r.length ≤ 8 := fun r hr' => by
        obtain ⟨k, hk, rfl⟩ := List.getElem_of_mem hr'; rw [hr k hk]; exact n8
      rw [hok, h', Bool.not_false, if_pos rfl]; refine Z6a (y := .inl ()) (Z6a (ZRb (r := .inr ()) (fun k => (k : Int)) t.length rfl (by omega) (fun k hk => ?_) ?_) rfl) ?_
      · simp only; rw [decide_eq_true (by omega), ZI, Z2 (by omega), Ze, h2 k hk, ZH, Zda (by omega) (by omega), Ze]; rfl
      · simp only; rw [decide_eq_false (by omega), ZH]
      · simp only; have step : ∀ i, (hi : i < t.length) → ∀ f : Bool, Z4 (σ := Bool × Int) (ρ := Int ⊕ Bool) (fun s : Bool × Int => match s with
  | (x95, x96) =>
  (ifb (decide (x96 < (t.length : Int)))
  (bnd (bnd (idx t (i : Int)) fun y177 =>
  bnd (idx y177 x96) fun y187 =>
  ifb (decide (y187 < (0 : Int)))
  (some true)
  (bnd (idx t (i : Int)) fun y196 =>
  bnd (idx y196 x96) fun y204 =>
  some (decide ((1000000 : Int) < y204))))
  (fun (x122 : Bool) =>
  (ifb (x122)
  (some (.inr ((.inl ((1 : Int))))))
  (bnd (ifb (x95)
  (bnd (idx t (i : Int)) fun y145 =>
  bnd (idx y145 x96) fun y155 =>
  some (y155 == ((0 : Int))))
  (some false))
  (fun (x134 : Bool) =>
  (bnd (chk .i64 (x96 + ((1 : Int)))) fun y142 =>
  some (.inl ((x134, y142)))))))))
  (some (.inr ((.inr x95)))))) Zfa ((f, (0 : Int))) = some (if t[i].any bad then .inl (1 : Int) else .inr (f && t[i].all (· == 0))) := by
          intro i hi f; have hri := hr i hi; have one : ∀ k, (hk : k < t[i].length) → (bnd (idx t (i : Int)) fun y177 => bnd (idx y177 (k : Int)) fun y187 => ifb (decide (y187 < (0 : Int))) (some true) (bnd (idx t (i : Int)) fun y196 => bnd (idx y196 (k : Int)) fun y204 => some (decide ((1000000 : Int) < y204)))) = some (bad t[i][k]) := by
            intro k hk; rw [Z2 hi, Ze, Z2 hk, Ze, Ze, Z2 hk, Ze, ZCm]
          have two : ∀ (b : Bool) k, (hk : k < t[i].length) → ifb b (bnd (idx t (i : Int)) fun y145 => bnd (idx y145 (k : Int)) fun y155 => some (y155 == ((0 : Int)))) (some false) = some (b && t[i][k] == 0) := by
            intro b k hk; rw [Z2 hi, Ze, Z2 hk, Ze]
            cases b
            · rw [ZH]; rfl
            · rw [ZI, Bool.true_and]
          by_cases hb : t[i].any bad = true
          · rw [if_pos hb]; obtain ⟨m, hm, g1, g2⟩ := ZNl hb; refine ZRb (fun k => (f && (t[i].take k).all (· == 0), (k : Int))) m (by simp) (by omega) (fun k hk => ?_) ?_
            · simp only; rw [decide_eq_true (by omega), ZI, one k (by omega), Ze, g2 k (by omega) hk, ZH, two _ k (by omega), Ze, Zda (by omega) (by omega), Ze, Zrf _ _ (by omega), Bool.and_assoc]; rfl
            · simp only; rw [decide_eq_true (by omega), ZI, one m (by omega), Ze, g1, ZI]
          · rw [if_neg hb]; have hb' : t[i].any bad = false := by simpa using hb
            have g2 := Z5e hb'; refine ZRb (fun k => (f && (t[i].take k).all (· == 0), (k : Int))) t[i].length (by simp) (by omega) (fun k hk => ?_) ?_
            · simp only; rw [decide_eq_true (by omega), ZI, one k (by omega), Ze, g2 k (by omega), ZH, two _ k (by omega), Ze, Zda (by omega) (by omega), Ze, Zrf _ _ (by omega), Bool.and_assoc]; rfl
            · simp only; rw [decide_eq_false (by omega), ZH, List.take_length]
        by_cases hb : (t.any (·.any bad)) = true
        · rw [if_pos hb]; obtain ⟨m, hm, g1, g2⟩ := Zmi hb; refine Z6a (y := .inr (1 : Int)) (Z6a (ZRb (r := .inl (1 : Int)) (fun k => ((t.take k).all (·.all (· == 0)), (k : Int))) m rfl (by omega) (fun k hk => ?_) ?_) rfl) rfl
          · simp only; rw [decide_eq_true (by omega), ZI, step k (by omega), Ze, if_neg (by rw [g2 k (by omega) hk]; simp)]; simp only; rw [Ze]; simp only; rw [Zda (by omega) (by omega), Ze, Zrf _ _ (by omega)]; rfl
          · simp only; rw [decide_eq_true (by omega), ZI, step m hm, Ze, if_pos g1]; simp only; rw [Ze]
        · have hb' : (t.any (·.any bad)) = false := by simpa using hb
          have g2 := ZWd hb'; rw [if_neg hb]; refine Z6a (y := .inl (t.all (·.all (· == 0)))) (Z6a (ZRb (r := .inr (t.all (·.all (· == 0)))) (fun k => ((t.take k).all (·.all (· == 0)), (k : Int))) t.length rfl (by omega) (fun k hk => ?_) ?_) rfl) ?_
          · simp only; rw [decide_eq_true (by omega), ZI, step k (by omega), Ze, if_neg (by rw [g2 k (by omega)]; simp)]; simp only; rw [Ze]; simp only; rw [Zda (by omega) (by omega), Ze, Zrf _ _ (by omega)]; rfl
          · simp only; rw [decide_eq_false (by omega), ZH, List.take_length]
          · simp only; have hz := Z9o hw hb'; by_cases h0 : ZRa t = 0
            · rw [if_pos h0, hz.1 h0]; rfl
            · have : (t.all (·.all (· == 0))) = false := by
                rw [Bool.eq_false_iff]; exact fun h => h0 (hz.2 h)
              rw [if_neg h0, this]; rfl
theorem Zxj {k m : Nat} {x y : Rat} (h : sz k x) (h' : sz m y) (hk : k + m ≤ 1000000000) (hy : y ≠ 0) : Zfd x y = some (x / y) := by
  unfold Zfd; rw [qdiv_ok h h' hk hy, Ze]
theorem Zyd (n : Int) : Z3a n = some (n : Rat) := by unfold Z3a Zrd; rw [Ze]
noncomputable def Zke  : Option (Rat) :=
 bnd (ZTb ((1 : Int))) fun a =>
 some a
noncomputable def Zqe  : Option (Rat) :=
 bnd (ZTb ((0 : Int))) fun a =>
 some a
noncomputable def Ztg (n : Int) (i : Int) (k : Int) (graded : Bool) : Option (Rat) :=
 ifb (i == k)
 (bnd (Zke ) fun b =>
 some b)
 (ifb (!(graded))
 (bnd (Zqe ) fun c =>
 some c)
 (bnd (chk .i64 (i - k)) fun a =>
 bnd (ifb (decide (a < (0 : Int)))
 (some (IntKind.i64.wrap (-a)))
 (some a))
 (fun (d : Int) =>
 (bnd (chk .i64 (n - ((1 : Int)))) fun e =>
 bnd (Zoe d e) fun f =>
 bnd (Zke ) fun g =>
 bnd (ZRd g f.1) fun h =>
 some h))))
noncomputable def Z1d (t : (List (List Int))) (graded : Bool) : Option (Rat × Rat) :=
 bnd (bnd (mk 8 ((t.length : Int)) ((t.length : Int))) fun ax =>
 bnd (mk 8 ((t.length : Int)) ((t.length : Int))) fun ay =>
 some (((List.replicate ((t.length : Int)).toNat ((0 : Int))), (List.replicate ((t.length : Int)).toNat ((0 : Int))))))
 (fun (p : (List Int) × (List Int)) => match p with
 | (r, u) =>
 (bnd (bnd (Z4 (fun s : Int × (List Int) × (List Int) × Int => match s with
 | (h, i, j, a) =>
 (ifb (decide (a < (t.length : Int)))
 (bnd (bnd (Z4 (fun s : Int × (List Int) × (List Int) × Int => match s with
 | (k, e, f, b) =>
 (ifb (decide (b < (t.length : Int)))
 (bnd (idx t a) fun v =>
 bnd (idx v b) fun w =>
 bnd (chk .i64 (k + w)) fun x =>
 bnd (idx e a) fun y =>
 bnd (idx t a) fun z =>
 bnd (idx z b) fun A =>
 bnd (chk .i64 (y + A)) fun B =>
 bnd (idx e a) fun az =>
 bnd (idx f b) fun C =>
 bnd (idx t a) fun D =>
 bnd (idx D b) fun E =>
 bnd (chk .i64 (C + E)) fun F =>
 bnd (idx f b) fun aA =>
 bnd (chk .i64 (b + ((1 : Int)))) fun G =>
 some (.inl ((x, (e.set (a).toNat B), (f.set (b).toNat F), G))))
 (some (.inr ((k, e, f)))))) Zfa ((h, i, j, (0 : Int))))
 (fun (p : Int × (List Int) × (List Int)) => match p with
 | (H, I, J) =>
 (some ((H, I, J)))))
 (fun (p : Int × (List Int) × (List Int)) => match p with
 | (K, L, M) =>
 (bnd (chk .i64 (a + ((1 : Int)))) fun N =>
 some (.inl ((K, L, M, N))))))
 (some (.inr ((h, i, j)))))) Zfa (((0 : Int), r, u, (0 : Int))))
 (fun (p : Int × (List Int) × (List Int)) => match p with
 | (O, P, Q) =>
 (some ((O, P, Q)))))
 (fun (p : Int × (List Int) × (List Int)) => match p with
 | (R, S, T) =>
 (bnd (Zqe ) fun U =>
 bnd (Zqe ) fun V =>
 bnd (bnd (Z4 (fun s : Rat × Rat × Int => match s with
 | (l, m, c) =>
 (ifb (decide (c < (t.length : Int)))
 (bnd (bnd (Z4 (fun s : Rat × Rat × Int => match s with
 | (n, o, d) =>
 (ifb (decide (d < (t.length : Int)))
 (bnd (Ztg ((t.length : Int)) c d graded) fun q =>
 bnd (idx t c) fun W =>
 bnd (idx W d) fun X =>
 bnd (ZTb X) fun Y =>
 bnd (Zee q Y) fun Z =>
 bnd (ZTd n Z) fun aa =>
 bnd (idx S c) fun ab =>
 bnd (ZTb ab) fun ac =>
 bnd (idx T d) fun ad =>
 bnd (ZTb ad) fun ae =>
 bnd (Zee ac ae) fun af =>
 bnd (Zee q af) fun ag =>
 bnd (ZTd o ag) fun ah =>
 bnd (chk .i64 (d + ((1 : Int)))) fun ai =>
 some (.inl ((aa, ah, ai))))
 (some (.inr ((n, o)))))) Zfa ((l, m, (0 : Int))))
 (fun (p : Rat × Rat) => match p with
 | (aj, ak) =>
 (some ((aj, ak)))))
 (fun (p : Rat × Rat) => match p with
 | (al, am) =>
 (bnd (chk .i64 (c + ((1 : Int)))) fun an =>
 some (.inl ((al, am, an))))))
 (some (.inr ((l, m)))))) Zfa ((U, V, (0 : Int))))
 (fun (p : Rat × Rat) => match p with
 | (ao, ap) =>
 (some ((ao, ap)))))
 (fun (p : Rat × Rat) => match p with
 | (aq, ar) =>
 (bnd (ZTb R) fun g =>
 bnd (Zle aq g) fun au =>
 bnd (Zee g g) fun av =>
 bnd (Zle ar av) fun aw =>
 some ((au, aw))))))))
def it {S : Type} (f : Nat → S → S) (s : S) : Nat → S
  | 0 => s
  | k + 1 => f k (it f s k)
theorem Z2g {S : Type} {f : Nat → S → S} {s : S} (I : Nat → S → Prop) (n : Nat) (h0 : I 0 s) (h : ∀ k x, k < n → I k x → I (k + 1) (f k x)) : ∀ k, k ≤ n → I k (it f s k)
  | 0, _ => h0
  | k + 1, hk => h k _ (by omega) (Z2g I n h0 h k (by omega))
def ent (t : List (List Int)) (i k : Nat) : Int := (t.getD i []).getD k 0
def upd (l : List Int) (i : Nat) (x : Int) : List Int := l.set i (l.getD i 0 + x)
theorem Z5f {α : Type} {l : List α} {i : Nat} {d : α} (h : i < l.length) : l.getD i d = l[i] := by rw [List.getD_eq_getElem?_getD, List.getElem?_eq_getElem h]; rfl
theorem Zdg {t : List (List Int)} {i k : Nat} (h : i < t.length) (h' : k < t[i].length) : ent t i k = t[i][k] := by unfold ent; rw [Z5f h, Z5f h']
def rcF (t : List (List Int)) (i k : Nat) (p : List Int × List Int) : List Int × List Int := (upd p.1 i (ent t i k), upd p.2 k (ent t i k))
def rcI (t : List (List Int)) (n i : Nat) (p : List Int × List Int) : List Int × List Int := it (rcF t i) p n
def rcA (t : List (List Int)) (n : Nat) : Nat → List Int × List Int := it (rcI t n) (List.replicate n 0, List.replicate n 0)
def RC (n : Nat) (B : Int) (p : List Int × List Int) : Prop := p.1.length = n ∧ p.2.length = n ∧ (∀ x ∈ p.1, 0 ≤ x ∧ x ≤ B) ∧ (∀ x ∈ p.2, 0 ≤ x ∧ x ≤ B)
theorem RC.at1 {n : Nat} {B : Int} {p : List Int × List Int} (h : RC n B p) {i : Nat} (hi : i < n) : ∃ hh : i < p.1.length, 0 ≤ p.1[i] ∧ p.1[i] ≤ B ∧ p.1.getD i 0 = p.1[i] := by
  have h1 : i < p.1.length := by rw [h.1]; exact hi
  exact ⟨h1, (h.2.2.1 _ (List.getElem_mem h1)).1, (h.2.2.1 _ (List.getElem_mem h1)).2, Z5f h1⟩
theorem RC.at2 {n : Nat} {B : Int} {p : List Int × List Int} (h : RC n B p) {i : Nat} (hi : i < n) : ∃ hh : i < p.2.length, 0 ≤ p.2[i] ∧ p.2[i] ≤ B ∧ p.2.getD i 0 = p.2[i] := by
  have h1 : i < p.2.length := by rw [h.2.1]; exact hi
  exact ⟨h1, (h.2.2.2 _ (List.getElem_mem h1)).1, (h.2.2.2 _ (List.getElem_mem h1)).2, Z5f h1⟩
theorem ZHm {l : List Int} {i : Nat} {x B : Int} (hx : 0 ≤ x ∧ x ≤ 1000000) (hi : i < l.length) (h : ∀ y ∈ l, 0 ≤ y ∧ y ≤ B) : ∀ y ∈ upd l i x, 0 ≤ y ∧ y ≤ B + 1000000 := by
  intro y hy; unfold upd at hy; have h2 := h _ (List.getElem_mem hi); rcases List.mem_or_eq_of_mem_set hy with h1 | h1
  · have := h y h1; omega
  · rw [Z5f hi] at h1; omega
structure Good (t : List (List Int)) : Prop where
  n0 : 0 < t.length
  n8 : t.length ≤ 8
  sq : ∀ i, (h : i < t.length) → t[i].length = t.length
  ok : ∀ i k, i < t.length → k < t.length → 0 ≤ ent t i k ∧ ent t i k ≤ 1000000
theorem Good.of {t : List (List Int)} (h1 : okT t = true) (h2 : t.any (·.any bad) = false) : Good t := by
  obtain ⟨a, b, c⟩ := Zwl h1; refine ⟨a, b, fun i h => c _ (List.getElem_mem h), fun i k hi hk => ?_⟩; have hk' : k < t[i].length := by rw [c _ (List.getElem_mem hi)]; exact hk
  rw [Zdg hi hk']; exact Z9i (Z5e (ZWd h2 i hi) k hk')
theorem RC.step {t : List (List Int)} (g : Good t) {B : Int} {p : List Int × List Int} {i k : Nat} (hi : i < t.length) (hk : k < t.length) (h : RC t.length B p) : RC t.length (B + 1000000) (rcF t i k p) :=
  ⟨by simp [rcF, upd, h.1], by simp [rcF, upd, h.2.1], ZHm (g.ok i k hi hk) (by rw [h.1]; exact hi) h.2.2.1, ZHm (g.ok i k hi hk) (by rw [h.2.1]; exact hk) h.2.2.2⟩
theorem RC.inner {t : List (List Int)} (g : Good t) {B : Int} {p : List Int × List Int} {i : Nat} (hi : i < t.length) (h : RC t.length B p) : ∀ k, k ≤ t.length → RC t.length (B + 1000000 * k) (it (rcF t i) p k) :=
  Z2g (fun k q => RC t.length (B + 1000000 * k) q) t.length (by simpa using h) fun k x hk hx => by
    have := hx.step g hi hk
    rwa [show B + 1000000 * ((k + 1 : Nat) : Int) = B + 1000000 * (k : Int) + 1000000 by omega]
theorem RC.mono {n : Nat} {B C : Int} {p : List Int × List Int} (h : RC n B p) (hB : B ≤ C) : RC n C p :=
  ⟨h.1, h.2.1, fun x hx => by have := h.2.2.1 x hx; omega, fun x hx => by have := h.2.2.2 x hx; omega⟩
theorem RC.outer {t : List (List Int)} (g : Good t) : ∀ k, k ≤ t.length → RC t.length (8000000 * k) (rcA t t.length k) :=
  Z2g (fun k q => RC t.length (8000000 * k) q) t.length ⟨by simp, by simp, fun x hx => by have := List.eq_of_mem_replicate hx; omega, fun x hx => by have := List.eq_of_mem_replicate hx; omega⟩ fun k x hk hx => by
    have := hx.inner g hk t.length (Nat.le_refl _)
    have n8 := g.n8
    exact this.mono (by omega)
def pqF (t : List (List Int)) (w : Nat → Nat → Rat) (p : List Int × List Int) (i k : Nat) (s : Rat × Rat) : Rat × Rat :=
  (s.1 + w i k * ((ent t i k : Int) : Rat), s.2 + w i k * ((p.1.getD i 0 : Int) : Rat) * ((p.2.getD k 0 : Int) : Rat))
def pqI (t : List (List Int)) (w : Nat → Nat → Rat) (p : List Int × List Int) (n i : Nat) (s : Rat × Rat) : Rat × Rat := it (pqF t w p i) s n
def pqA (t : List (List Int)) (w : Nat → Nat → Rat) (p : List Int × List Int) (n : Nat) : Nat → Rat × Rat := it (pqI t w p n) (0, 0)
def SZ (k : Nat) (s : Rat × Rat) : Prop := sz k s.1 ∧ sz k s.2
theorem SZ.mono {k m : Nat} {s : Rat × Rat} (h : SZ k s) (hk : k ≤ m) : SZ m s := ⟨h.1.mono hk, h.2.mono hk⟩
theorem Zxh : sz 1 (0 : Rat) := by constructor <;> decide
section
variable {t : List (List Int)} {w : Nat → Nat → Rat} {p : List Int × List Int}
theorem SZ.step (g : Good t) (hw : ∀ i k, i < t.length → k < t.length → sz 200 (w i k)) (hp : RC t.length 64000000 p) {i k c : Nat} {s : Rat × Rat} (hi : i < t.length) (hk : k < t.length) (h : SZ c s) : SZ (c + 400) (pqF t w p i k s) := by
  have e := g.ok i k hi hk; obtain ⟨_, a1, a2, a3⟩ := hp.at1 hi; obtain ⟨_, b1, b2, b3⟩ := hp.at2 hk; refine ⟨(ZMm h.1 (ZZc (hw i k hi hk) (Z5b (n := ent t i k) (by omega)))).mono (by omega), (ZMm h.2 (ZZc (ZZc (hw i k hi hk) (Z5b (n := p.1.getD i 0) (by omega))) (Z5b (n := p.2.getD k 0) (by omega)))).mono (by omega)⟩
theorem SZ.inner (g : Good t) (hw : ∀ i k, i < t.length → k < t.length → sz 200 (w i k)) (hp : RC t.length 64000000 p) {i c : Nat} {s : Rat × Rat} (hi : i < t.length) (h : SZ c s) : ∀ k, k ≤ t.length → SZ (c + 400 * k) (it (pqF t w p i) s k) :=
  Z2g (fun k q => SZ (c + 400 * k) q) t.length h fun k x hk hx => (hx.step g hw hp hi hk).mono (by omega)
theorem SZ.outer (g : Good t) (hw : ∀ i k, i < t.length → k < t.length → sz 200 (w i k)) (hp : RC t.length 64000000 p) : ∀ k, k ≤ t.length → SZ (4000 * k + 1) (pqA t w p t.length k) :=
  Z2g (fun k q => SZ (4000 * k + 1) q) t.length ⟨Zxh, Zxh⟩ fun k x hk hx => by
    have n8 := g.n8
    exact (hx.inner g hw hp hk t.length (Nat.le_refl _)).mono (by omega)
end
def shF (t : List (List Int)) (w : Nat → Nat → Rat) : Rat × Rat :=
  let s := pqA t w (rcA t t.length t.length) t.length t.length
  (s.1 / ((ZRa t : Int) : Rat), s.2 / (((ZRa t : Int) : Rat) * ((ZRa t : Int) : Rat)))
theorem Z1k {t : List (List Int)} (g : Good t) {w : Nat → Nat → Rat} (hw : ∀ i k, i < t.length → k < t.length → sz 200 (w i k)) (ht : 0 ≤ ZRa t ∧ ZRa t ≤ 64000000) : SZ 40000 (shF t w) := by
  have n8 := g.n8; have hp := (RC.outer g t.length (Nat.le_refl _)).mono (C := 64000000) (by omega); have h := SZ.outer g hw hp t.length (Nat.le_refl _); have s1 := Z5b (n := ZRa t) (by omega); exact ⟨(ZOf h.1 s1).mono (by omega), (ZOf h.2 (ZZc s1 s1)).mono (by omega)⟩
noncomputable def Zwe (i : Int) (k : Int) (t : (List (List Int))) : Option (Rat) :=
 ifb (i == k)
 (bnd (Z3a ((1 : Int))) fun a =>
 some a)
 (bnd (Z3a ((1 : Int))) fun b =>
 bnd (chk .i64 (i - k)) fun c =>
 bnd (chk .i64 (k - i)) fun d =>
 bnd (Z3a (max c d)) fun e =>
 bnd (chk .i64 (((t.length : Int)) - ((1 : Int)))) fun f =>
 bnd (Z3a f) fun g =>
 bnd (Zfd e g) fun h =>
 bnd (Z0b b h) fun j =>
 some j)
noncomputable def Zqi (t : (List (List Int))) (n : Int) (g : (List (List Int))) : Option (Rat × Rat) :=
 bnd (bnd (mk 8 ((t.length : Int)) ((t.length : Int))) fun an =>
 bnd (mk 8 ((t.length : Int)) ((t.length : Int))) fun ao =>
 some (((List.replicate ((t.length : Int)).toNat ((0 : Int))), (List.replicate ((t.length : Int)).toNat ((0 : Int))))))
 (fun (p : (List Int) × (List Int)) => match p with
 | (u, v) =>
 (bnd (bnd (Z4 (fun s : (List Int) × (List Int) × Int => match s with
 | (h, i, a) =>
 (ifb (decide (a < (t.length : Int)))
 (bnd (idx t a) fun j =>
 bnd (bnd (Z4 (fun s : (List Int) × (List Int) × Int => match s with
 | (e, f, b) =>
 (ifb (decide (b < (j.length : Int)))
 (bnd (idx j b) fun k =>
 bnd (idx e a) fun w =>
 bnd (chk .i64 (w + k)) fun x =>
 bnd (idx e a) fun ap =>
 bnd (idx f b) fun y =>
 bnd (chk .i64 (y + k)) fun z =>
 bnd (idx f b) fun aq =>
 bnd (chk .i64 (b + ((1 : Int)))) fun A =>
 some (.inl (((e.set (a).toNat x), (f.set (b).toNat z), A))))
 (some (.inr ((e, f)))))) Zfa ((h, i, (0 : Int))))
 (fun (p : (List Int) × (List Int)) => match p with
 | (B, C) =>
 (some ((B, C)))))
 (fun (p : (List Int) × (List Int)) => match p with
 | (D, E) =>
 (bnd (chk .i64 (a + ((1 : Int)))) fun F =>
 some (.inl ((D, E, F))))))
 (some (.inr ((h, i)))))) Zfa ((u, v, (0 : Int))))
 (fun (p : (List Int) × (List Int)) => match p with
 | (G, H) =>
 (some ((G, H)))))
 (fun (p : (List Int) × (List Int)) => match p with
 | (I, J) =>
 (bnd (bnd (Z4 (fun s : Rat × Rat × Int => match s with
 | (l, m, c) =>
 (ifb (decide (c < (t.length : Int)))
 (bnd (idx t c) fun o =>
 bnd (bnd (Z4 (fun s : Rat × Rat × Int => match s with
 | (q, r, d) =>
 (ifb (decide (d < (o.length : Int)))
 (bnd (idx o d) fun K =>
 bnd (Zwe c d g) fun L =>
 bnd (Z3a K) fun M =>
 bnd (ZBb L M) fun N =>
 bnd (Zcc q N) fun O =>
 bnd (Zwe c d g) fun P =>
 bnd (idx I c) fun Q =>
 bnd (Z3a Q) fun R =>
 bnd (ZBb P R) fun S =>
 bnd (idx J d) fun T =>
 bnd (Z3a T) fun U =>
 bnd (ZBb S U) fun V =>
 bnd (Zcc r V) fun W =>
 bnd (chk .i64 (d + ((1 : Int)))) fun X =>
 some (.inl ((O, W, X))))
 (some (.inr ((q, r)))))) Zfa ((l, m, (0 : Int))))
 (fun (p : Rat × Rat) => match p with
 | (Y, Z) =>
 (some ((Y, Z)))))
 (fun (p : Rat × Rat) => match p with
 | (aa, ab) =>
 (bnd (chk .i64 (c + ((1 : Int)))) fun ac =>
 some (.inl ((aa, ab, ac))))))
 (some (.inr ((l, m)))))) Zfa (((0 : Rat), (0 : Rat), (0 : Int))))
 (fun (p : Rat × Rat) => match p with
 | (ad, ae) =>
 (some ((ad, ae)))))
 (fun (p : Rat × Rat) => match p with
 | (af, ag) =>
 (bnd (Z3a n) fun ah =>
 bnd (Zfd af ah) fun ai =>
 bnd (Z3a n) fun aj =>
 bnd (Z3a n) fun ak =>
 bnd (ZBb aj ak) fun al =>
 bnd (Zfd ag al) fun am =>
 some ((ai, am))))))))
set_option maxRecDepth 100000
noncomputable def shG (wm : Int → Int → Option Rat) (t : (List (List Int))) (n : Int) : Option (Rat × Rat) :=
  bnd (bnd (mk 8 ((t.length : Int)) ((t.length : Int))) fun y767 =>
  bnd (mk 8 ((t.length : Int)) ((t.length : Int))) fun y776 =>
  some (((List.replicate ((t.length : Int)).toNat ((0 : Int))), (List.replicate ((t.length : Int)).toNat ((0 : Int))))))
  (fun (p : (List Int) × (List Int)) => match p with
  | (x14, x22) =>
  (bnd (bnd (Z4 (fun s : (List Int) × (List Int) × Int => match s with
  | (x535, x543, x551) =>
  (ifb (decide (x551 < (t.length : Int)))
  (bnd (idx t x551) fun y588 =>
  bnd (bnd (Z4 (fun s : (List Int) × (List Int) × Int => match s with
  | (x634, x642, x650) =>
  (ifb (decide (x650 < (y588.length : Int)))
  (bnd (idx y588 x650) fun y687 =>
  bnd (idx x634 x551) fun y703 =>
  bnd (chk .i64 (y703 + y687)) fun y710 =>
  bnd (idx x634 x551) fun y712 =>
  bnd (idx x642 x650) fun y733 =>
  bnd (chk .i64 (y733 + y687)) fun y740 =>
  bnd (idx x642 x650) fun y742 =>
  bnd (chk .i64 (x650 + ((1 : Int)))) fun y763 =>
  some (.inl (((x634.set (x551).toNat y710), (x642.set (x650).toNat y740), y763))))
  (some (.inr ((x634, x642)))))) Zfa ((x535, x543, (0 : Int))))
  (fun (p : (List Int) × (List Int)) => match p with
  | (x654, x662) =>
  (some ((x654, x662)))))
  (fun (p : (List Int) × (List Int)) => match p with
  | (x609, x617) =>
  (bnd (chk .i64 (x551 + ((1 : Int)))) fun y632 =>
  some (.inl ((x609, x617, y632))))))
  (some (.inr ((x535, x543)))))) Zfa ((x14, x22, (0 : Int))))
  (fun (p : (List Int) × (List Int)) => match p with
  | (x555, x563) =>
  (some ((x555, x563)))))
  (fun (p : (List Int) × (List Int)) => match p with
  | (x42, x50) =>
  (bnd (bnd (Z4 (fun s : Rat × Rat × Int => match s with
  | (x189, x194, x199) =>
  (ifb (decide (x199 < (t.length : Int)))
  (bnd (idx t x199) fun y230 =>
  bnd (bnd (Z4 (fun s : Rat × Rat × Int => match s with
  | (x270, x275, x280) =>
  (ifb (decide (x280 < (y230.length : Int)))
  (bnd (idx y230 x280) fun y311 =>
  bnd (wm x199 x280) fun y327 =>
  bnd (Z3a y311) fun y336 =>
  bnd (ZBb y327 y336) fun y345 =>
  bnd (Zcc x270 y345) fun y354 =>
  bnd (wm x199 x280) fun y393 =>
  bnd (idx x42 x199) fun y402 =>
  bnd (Z3a y402) fun y409 =>
  bnd (ZBb y393 y409) fun y418 =>
  bnd (idx x50 x280) fun y427 =>
  bnd (Z3a y427) fun y434 =>
  bnd (ZBb y418 y434) fun y443 =>
  bnd (Zcc x275 y443) fun y452 =>
  bnd (chk .i64 (x280 + ((1 : Int)))) fun y531 =>
  some (.inl ((y354, y452, y531))))
  (some (.inr ((x270, x275)))))) Zfa ((x189, x194, (0 : Int))))
  (fun (p : Rat × Rat) => match p with
  | (x284, x289) =>
  (some ((x284, x289)))))
  (fun (p : Rat × Rat) => match p with
  | (x251, x256) =>
  (bnd (chk .i64 (x199 + ((1 : Int)))) fun y268 =>
  some (.inl ((x251, x256, y268))))))
  (some (.inr ((x189, x194)))))) Zfa (((0 : Rat), (0 : Rat), (0 : Int))))
  (fun (p : Rat × Rat) => match p with
  | (x203, x208) =>
  (some ((x203, x208)))))
  (fun (p : Rat × Rat) => match p with
  | (x70, x75) =>
  (bnd (Z3a n) fun y89 =>
  bnd (Zfd x70 y89) fun y98 =>
  bnd (Z3a n) fun y107 =>
  bnd (Z3a n) fun y116 =>
  bnd (ZBb y107 y116) fun y125 =>
  bnd (Zfd x75 y125) fun y134 =>
  some ((y98, y134))))))))
theorem Ztq (t : List (List Int)) (n : Int) : Z2f t n () = shG ZHe t n := rfl
theorem ZMo (t : List (List Int)) (n : Int) (g : List (List Int)) : Zqi t n g = shG (fun i k => Zwe i k g) t n := rfl
theorem it_zero {S : Type} (f : Nat → S → S) (s : S) : it f s 0 = s := rfl
theorem Zuh {S : Type} (f : Nat → S → S) (s : S) (k : Nat) : it f s (k + 1) = f k (it f s k) := rfl
theorem Zbl (t : List (List Int)) (i k : Nat) (p : List Int × List Int) : rcF t i k p = (p.1.set i (p.1.getD i 0 + ent t i k), p.2.set k (p.2.getD k 0 + ent t i k)) := rfl
theorem Zym (t : List (List Int)) (w : Nat → Nat → Rat) (p : List Int × List Int) (i k : Nat) (s : Rat × Rat) : pqF t w p i k s = (s.1 + w i k * ((ent t i k : Int) : Rat), s.2 + w i k * ((p.1.getD i 0 : Int) : Rat) * ((p.2.getD k 0 : Int) : Rat)) := rfl
theorem Zgm {t : List (List Int)} (g : Good t) {wm : Int → Int → Option Rat} {w : Nat → Nat → Rat} (hwm : ∀ i k : Nat, i < t.length → k < t.length → wm (i : Int) (k : Int) = some (w i k)) (hw : ∀ i k, i < t.length → k < t.length → sz 200 (w i k))
    (ht : 0 < ZRa t ∧ ZRa t ≤ 64000000) : shG wm t (ZRa t) = some (shF t w) := by
  unfold shG; have n8 := g.n8; obtain ⟨u, hu⟩ := ZOc (b := 8) (l := (t.length : Int)) (c := (t.length : Int)) (by omega) (by omega) (by omega) (by omega); rw [hu, Ze, Ze, Ze]; simp only [Int.toNat_natCast]; refine Z6a (y := rcA t t.length t.length) (Z6a (y := rcA t t.length t.length) (ZRb (fun k => ((rcA t t.length k).1, (rcA t t.length k).2, (k : Int))) t.length rfl (by omega) (fun i hi => ?_) ?_) rfl) ?_
  · have hri := g.sq i hi; have hp := RC.outer g i (by omega); simp only; rw [decide_eq_true (by omega), ZI, Z2 hi, Ze]; refine Z6a (y := rcI t t.length i (rcA t t.length i)) (Z6a (y := rcI t t.length i (rcA t t.length i)) (ZRb (fun k => ((it (rcF t i) (rcA t t.length i) k).1, (it (rcF t i) (rcA t t.length i) k).2, (k : Int))) t.length rfl (by omega) (fun k hk => ?_) ?_) rfl) ?_
    · have hq := RC.inner g hi hp k (by omega); obtain ⟨a0, a1, a2, a3⟩ := hq.at1 hi; obtain ⟨b0, b1, b2, b3⟩ := hq.at2 hk; have e := g.ok i k hi hk; have hki : k < t[i].length := by omega
      have eg := Zdg hi hki; simp only; rw [decide_eq_true (by omega), ZI, Z2 hki, Ze, Z2 a0, Ze, Zda (by omega) (by omega), Ze, Ze, Z2 b0, Ze, Zda (by omega) (by omega), Ze, Ze, Zda (by omega) (by omega), Ze, Zuh, Zbl, a3, b3, eg]; rfl
    · simp only; rw [decide_eq_false (by omega), ZH]; rfl
    · rw [Zda (by omega) (by omega), Ze]; rfl
  · simp only; rw [decide_eq_false (by omega), ZH]
  · have hp := (RC.outer g t.length (Nat.le_refl _)).mono (C := 64000000) (by omega); have hs := SZ.outer g hw hp t.length (Nat.le_refl _); unfold shF; simp only; generalize rcA t t.length t.length = p at *; refine Z6a (y := pqA t w p t.length t.length) (Z6a (y := pqA t w p t.length t.length) (ZRb (fun k => ((pqA t w p t.length k).1, (pqA t w p t.length k).2, (k : Int))) t.length rfl (by omega) (fun i hi => ?_) ?_) rfl) ?_
    · have hri := g.sq i hi; have hz := SZ.outer g hw hp i (by omega); simp only; rw [decide_eq_true (by omega), ZI, Z2 hi, Ze]; refine Z6a (y := pqI t w p t.length i (pqA t w p t.length i)) (Z6a (y := pqI t w p t.length i (pqA t w p t.length i)) (ZRb (fun k => ((it (pqF t w p i) (pqA t w p t.length i) k).1, (it (pqF t w p i) (pqA t w p t.length i) k).2, (k : Int))) t.length rfl (by omega) (fun k hk => ?_) ?_) rfl) ?_
      · have hq := SZ.inner g hw hp hi hz k (by omega); obtain ⟨a0, a1, a2, a3⟩ := hp.at1 hi; obtain ⟨b0, b1, b2, b3⟩ := hp.at2 hk; have e := g.ok i k hi hk; have hki : k < t[i].length := by omega
        have eg := Zdg hi hki; have zw := hw i k hi hk; have z1 := Z5b (n := t[i][k]) (by omega); have z2 := Z5b (n := p.1[i]) (by omega); have z3 := Z5b (n := p.2[k]) (by omega); have z4 := ZZc zw z1; have z5 := ZZc zw z2; have z6 := ZZc z5 z3; simp only; rw [decide_eq_true (by omega), ZI, Z2 hki, Ze, hwm i k hi hk, Ze, Zyd, Ze, ZDi zw z1 (by omega), Ze, Zmm hq.1 z4 (by omega), Ze, Ze, Z2 a0, Ze, Zyd, Ze, ZDi zw z2 (by omega), Ze, Z2 b0, Ze, Zyd, Ze, ZDi z5 z3 (by omega), Ze, Zmm hq.2 z6 (by omega), Ze, Zda (by omega) (by omega), Ze, Zuh, Zym, a3, b3, eg]; rfl
      · simp only; rw [decide_eq_false (by omega), ZH]; rfl
      · rw [Zda (by omega) (by omega), Ze]; rfl
    · simp only; rw [decide_eq_false (by omega), ZH]
    · have zt := Z5b (n := ZRa t) (by omega); have hne : ((ZRa t : Int) : Rat) ≠ 0 := by
        intro h; have := Rat.intCast_eq_zero_iff.1 h; omega
      have hne2 : ((ZRa t : Int) : Rat) * ((ZRa t : Int) : Rat) ≠ 0 := by
        intro h; rcases Rat.mul_eq_zero.1 h with h | h <;> exact hne h
      rw [Zyd, Ze, Zxj hs.1 zt (by omega) hne, Ze, Ze, Ze, ZDi zt zt (by omega), Ze, Zxj hs.2 (ZZc zt zt) (by omega) hne2, Ze]
noncomputable def Zlg (x : Rat) : Option (Rat) :=
 bnd (Zec x) fun a =>
 bnd (ZYb (!(decide (x.num < 0))) x.num.natAbs a) fun b =>
 some b
noncomputable def ZQg (x : Rat) (y : Rat) : Option (Rat) :=
 bnd (Zec x) fun a =>
 bnd (Zec y) fun b =>
 bnd (Zcb x.num.natAbs b) fun c =>
 bnd (Zcb y.num.natAbs a) fun d =>
 ifb ((decide (x.num < 0)) == (decide (y.num < 0)))
 (bnd (ZSf c d) fun e =>
 bnd (Zcb a b) fun f =>
 bnd (ZYb (decide (x.num < 0)) e f) fun g =>
 some g)
 (bnd (Ztd c d) fun h =>
 ifb (decide ((0 : Int) ≤ h))
 (bnd (Zoc c d) fun i =>
 bnd (Zcb a b) fun j =>
 bnd (ZYb (decide (x.num < 0)) i j) fun k =>
 some k)
 (bnd (Zoc d c) fun l =>
 bnd (Zcb a b) fun m =>
 bnd (ZYb (decide (y.num < 0)) l m) fun n =>
 some n))
noncomputable def ZQi (x : Rat) (y : Rat) : Option (Rat) :=
 bnd (Zrg y) fun a =>
 bnd (ZTd x a) fun b =>
 some b
noncomputable def ZVi (x : Rat) (y : Rat) : Option (Rat) :=
 bnd (Zcb x.num.natAbs y.num.natAbs) fun a =>
 bnd (Zec x) fun b =>
 bnd (Zec y) fun c =>
 bnd (Zcb b c) fun d =>
 bnd (ZYb ((decide (x.num < 0)) != (decide (y.num < 0))) a d) fun e =>
 some e
noncomputable def ZXh (x : Rat) (y : Rat) : Option (Rat × Int) :=
 bnd (ZEd y) fun a =>
 ifb (a)
 (bnd (ZTb ((0 : Int))) fun b =>
 some ((b, (3 : Int))))
 (bnd (Zec y) fun c =>
 bnd (Zcb x.num.natAbs c) fun d =>
 bnd (Zec x) fun e =>
 bnd (Zcb e y.num.natAbs) fun f =>
 bnd (ZYb ((decide (x.num < 0)) != (decide (y.num < 0))) d f) fun g =>
 some ((g, (0 : Int))))
noncomputable def ZNh (x : Rat) (y : Rat) : Option (Rat) :=
 bnd (ZVg x y) fun a =>
 some a.1
noncomputable def Zmh (x : Rat) (y : Rat) : Option (Int) :=
 bnd (ZRd x y) fun a =>
 bnd (Z9f a) fun b =>
 some b
noncomputable def Zfi (x : Rat) (y : Rat) : Option (Bool) :=
 bnd (Zgg x y) fun a =>
 some (a == ((0 : Int)))
noncomputable def Zzi (x : Rat) : Option ((List UInt8)) :=
 bnd (ZWf x.num.natAbs) fun b =>
 bnd (ifb (decide (x.num < 0))
 (bnd (ZEd x) fun d =>
 some (!(d)))
 (some false))
 (fun (e : Bool) =>
 (bnd (ifb (e)
 (bnd (Z7b ((([45] : List UInt8)) ++ b)) fun j =>
 some (((([45] : List UInt8)) ++ b)))
 (some b))
 (fun (a : (List UInt8)) =>
 (bnd (Zec x) fun f =>
 bnd (ZJc ([(1 : Int)])) fun g =>
 bnd (Ztd f g) fun h =>
 bnd (ifb (decide ((0 : Int) < h))
 (bnd (Z7b (a ++ (([47] : List UInt8)))) fun k =>
 bnd (ZWf x.den) fun c =>
 bnd (Z7b (((a ++ (([47] : List UInt8)))) ++ c)) fun l =>
 some ((((a ++ (([47] : List UInt8)))) ++ c)))
 (some a))
 (fun (i : (List UInt8)) =>
 (some i))))))
theorem Zld {n : Nat} (h : bl n ≤ 1099511627776) : Z8a n := Zpl (by omega)
theorem Z6b {n : Nat} (h : bl n ≤ 1099511627776) : ZKa n := by have := Zld h; unfold Z8a at this; unfold ZKa; omega
theorem rneg_eq {x : Rat} (h : okQ x) : Zlg x = some (-x) := by
  obtain ⟨h1, h2⟩ := h; unfold Zlg Zec ZYb; rw [Ze, if_pos ⟨Zld h1, Zld h2, x.den_nz⟩, Ze]; congr 1; have e : sgn (!(decide (x.num < 0))) x.num.natAbs = -x.num := by
    unfold sgn; by_cases h : x.num < 0
    · simp [h]; omega
    · simp [h]; omega
  rw [e]; exact Rat.mkRat_self (-x)
theorem Z8o {x z : Rat} (h : Zrg x = some z) : Zlg x = some z := by
  unfold Zrg at h; split at h
  · rename_i hh; rw [rneg_eq hh, h]
  · cases h
theorem radd_eq {x y : Rat} (h : smQ x) (h' : smQ y) : ZQg x y = some (x + y) := by
  obtain ⟨a1, a2⟩ := h; obtain ⟨b1, b2⟩ := h'; unfold ZQg Zec; have p1 := ZEb x.num.natAbs y.den; have p2 := ZEb y.num.natAbs x.den; have p3 := ZEb x.den y.den; have p4 := Zgi (x.num.natAbs * y.den) (y.num.natAbs * x.den); have hd : x.den * y.den ≠ 0 := Nat.mul_ne_zero x.den_nz y.den_nz; have e1 : Zcb x.num.natAbs y.den = some (x.num.natAbs * y.den) := by unfold Zcb; rw [if_pos ⟨Z6b (by omega), Z6b (by omega)⟩]
  have e2 : Zcb y.num.natAbs x.den = some (y.num.natAbs * x.den) := by unfold Zcb; rw [if_pos ⟨Z6b (by omega), Z6b (by omega)⟩]
  have e3 : Zcb x.den y.den = some (x.den * y.den) := by unfold Zcb; rw [if_pos ⟨Z6b (by omega), Z6b (by omega)⟩]
  have eN : ((x.num.natAbs * y.den : Nat) : Int) = (x.num.natAbs : Int) * y.den := by simp
  have eM : ((y.num.natAbs * x.den : Nat) : Int) = (y.num.natAbs : Int) * x.den := by simp
  have key : ∀ (s : Bool) (n : Nat), bl n ≤ 1099511627776 → sgn s n = x.num * y.den + y.num * x.den → ZYb s n (x.den * y.den) = some (x + y) := by
    intro s n hn he; unfold ZYb; rw [if_pos ⟨Zld hn, Zld (by omega), hd⟩, he, ← Rat.add_def']
  rw [Ze, Ze, e1, Ze, e2, Ze, e3]; obtain ⟨N, hN⟩ : ∃ N, N = x.num.natAbs * y.den := ⟨_, rfl⟩; obtain ⟨M, hM⟩ : ∃ M, M = y.num.natAbs * x.den := ⟨_, rfl⟩; rw [← hN] at p1 p4 eN ⊢; rw [← hM] at p2 p4 eM ⊢; have sx : x.num * (y.den : Int) = if x.num < 0 then -(N : Int) else N := by
    split
    · rw [eN, ← Int.neg_mul]; congr 1; omega
    · rw [eN]; congr 1; omega
  have sy : y.num * (x.den : Int) = if y.num < 0 then -(M : Int) else M := by
    split
    · rw [eM, ← Int.neg_mul]; congr 1; omega
    · rw [eM]; congr 1; omega
  by_cases hs : (x.num < 0) ↔ (y.num < 0)
  · have e4 : ZSf N M = some (N + M) := by unfold ZSf; rw [if_pos ⟨Z6b (by omega), Z6b (by omega)⟩]
    have e5 : ((decide (x.num < 0)) == (decide (y.num < 0))) = true := by
      by_cases h : x.num < 0
      · simp [h, hs.1 h]
      · have h2 : ¬ y.num < 0 := fun k => h (hs.2 k); simp [h, h2]
    rw [e5, ZI, e4, Ze, Ze, key _ _ (by omega) ?_, Ze]; rw [sx, sy]; unfold sgn; by_cases h : x.num < 0
    · have h2 := hs.1 h; simp [h, h2]; omega
    · have h2 : ¬ y.num < 0 := fun k => h (hs.2 k); simp [h, h2]
  · have e5 : ((decide (x.num < 0)) == (decide (y.num < 0))) = false := by
      apply beq_false_of_ne; intro h; exact hs (by by_cases k : x.num < 0 <;> by_cases k2 : y.num < 0 <;> simp_all)
    rw [e5, ZH]; unfold Ztd; rw [Ze]; by_cases hle : M ≤ N
    · have e6 : decide ((0 : Int) ≤ Zab N M) = true := by
        unfold Zab; rw [if_neg (by omega)]; split <;> rfl
      have e4 : Zoc N M = some (N - M) := by unfold Zoc; rw [if_pos ⟨Z6b (by omega), hle⟩]
      have hb : bl (N - M) ≤ bl N := Z7c (by omega); rw [e6, ZI, e4, Ze, Ze, key _ _ (by omega) ?_, Ze]; rw [sx, sy]; unfold sgn; by_cases h : x.num < 0
      · have h2 : ¬ y.num < 0 := fun k => hs ⟨fun _ => k, fun _ => h⟩; simp [h, h2]; omega
      · have h2 : y.num < 0 := by
          rcases Int.lt_or_le y.num 0 with k | k
          · exact k
          · exact absurd ⟨fun q => absurd q h, fun q => absurd q (by omega)⟩ hs
        simp [h, h2]; omega
    · have e6 : decide ((0 : Int) ≤ Zab N M) = false := by
        unfold Zab; rw [if_pos (by omega)]; rfl
      have e4 : Zoc M N = some (M - N) := by unfold Zoc; rw [if_pos ⟨Z6b (by omega), by omega⟩]
      have hb : bl (M - N) ≤ bl M := Z7c (by omega); rw [e6, ZH, e4, Ze, Ze, key _ _ (by omega) ?_, Ze]; rw [sx, sy]; unfold sgn; by_cases h : x.num < 0
      · have h2 : ¬ y.num < 0 := fun k => hs ⟨fun _ => k, fun _ => h⟩; simp [h, h2]; omega
      · have h2 : y.num < 0 := by
          rcases Int.lt_or_le y.num 0 with k | k
          · exact k
          · exact absurd ⟨fun q => absurd q h, fun q => absurd q (by omega)⟩ hs
        simp [h, h2]; omega
theorem Z7n {x y z : Rat} (h : ZTd x y = some z) : ZQg x y = some z := by
  unfold ZTd at h; split at h
  · rename_i hh; rw [radd_eq hh.1 hh.2, h]
  · cases h
theorem smQ_neg {x : Rat} (h : smQ x) : smQ (-x) := by
  unfold smQ at *; have := ZFj x; rw [this.1, this.2]; exact h
theorem smQ_ok {x : Rat} (h : smQ x) : okQ x := by unfold smQ at h; unfold okQ; omega
theorem ZPp {x y z : Rat} (h : ZRd x y = some z) : ZQi x y = some z := by
  unfold ZRd at h; split at h
  · rename_i hh; unfold ZQi Zrg ZTd; rw [if_pos (smQ_ok hh.2), Ze, if_pos ⟨hh.1, smQ_neg hh.2⟩, Ze, ← Rat.sub_eq_add_neg]; exact h
  · cases h
theorem ZIo {x y z : Rat} (h : Zee x y = some z) : ZVi x y = some z := by
  unfold Zee at h; split at h
  · rename_i hh; obtain ⟨⟨a1, a2⟩, b1, b2⟩ := hh
    cases h
    unfold ZVi Zec; have p1 := ZEb x.num.natAbs y.num.natAbs; have p3 := ZEb x.den y.den; have e1 : Zcb x.num.natAbs y.num.natAbs = some (x.num.natAbs * y.num.natAbs) := by unfold Zcb; rw [if_pos ⟨Z6b (by omega), Z6b (by omega)⟩]
    have e3 : Zcb x.den y.den = some (x.den * y.den) := by unfold Zcb; rw [if_pos ⟨Z6b (by omega), Z6b (by omega)⟩]
    rw [e1, Ze, Ze, Ze, e3, Ze]; unfold ZYb; rw [if_pos ⟨Zld (by omega), Zld (by omega), Nat.mul_ne_zero x.den_nz y.den_nz⟩, Ze]; have e : sgn ((decide (x.num < 0)) != (decide (y.num < 0))) (x.num.natAbs * y.num.natAbs) = x.num * y.num := by
      have eN : ((x.num.natAbs * y.num.natAbs : Nat) : Int) = (x.num.natAbs : Int) * y.num.natAbs := by simp
      unfold sgn; rw [eN]; by_cases h : x.num < 0
      · have hx : (x.num.natAbs : Int) = -x.num := by omega
        by_cases h2 : y.num < 0
        · have hy : (y.num.natAbs : Int) = -y.num := by omega
          simp [h, h2, hx, hy, Int.neg_mul, Int.mul_neg]
        · have hy : (y.num.natAbs : Int) = y.num := by omega
          simp [h, h2, hx, hy, Int.neg_mul, Int.mul_neg]
      · have hx : (x.num.natAbs : Int) = x.num := by omega
        by_cases h2 : y.num < 0
        · have hy : (y.num.natAbs : Int) = -y.num := by omega
          simp [h, h2, hx, hy, Int.neg_mul, Int.mul_neg]
        · have hy : (y.num.natAbs : Int) = y.num := by omega
          simp [h, h2, hx, hy, Int.neg_mul, Int.mul_neg]
    rw [e, ← Rat.mul_def']
  · cases h
theorem Zco {x y : Rat} {z : Rat × Int} (h : ZVg x y = some z) : ZXh x y = some z := by
  unfold ZVg at h; split at h
  · rename_i hh; obtain ⟨⟨a1, a2⟩, b1, b2⟩ := hh
    cases h
    unfold ZXh ZEd; rw [Ze]; by_cases h0 : y = 0
    · subst h0; rfl
    · rw [decide_eq_false h0, ZH, if_neg h0]; unfold Zec; have hn := Zui h0; have p1 := ZEb x.num.natAbs y.den; have p3 := ZEb x.den y.num.natAbs; have e1 : Zcb x.num.natAbs y.den = some (x.num.natAbs * y.den) := by unfold Zcb; rw [if_pos ⟨Z6b (by omega), Z6b (by omega)⟩]
      have e3 : Zcb x.den y.num.natAbs = some (x.den * y.num.natAbs) := by unfold Zcb; rw [if_pos ⟨Z6b (by omega), Z6b (by omega)⟩]
      rw [Ze, e1, Ze, Ze, e3, Ze]; unfold ZYb; rw [if_pos ⟨Zld (by omega), Zld (by omega), Nat.mul_ne_zero x.den_nz (by omega)⟩, Ze]; have e : sgn ((decide (x.num < 0)) != (decide (y.num < 0))) (x.num.natAbs * y.den) = if y.num < 0 then -(x.num * (y.den : Int)) else x.num * (y.den : Int) := by
        have eN : ((x.num.natAbs * y.den : Nat) : Int) = (x.num.natAbs : Int) * y.den := by simp
        unfold sgn; rw [eN]; by_cases h : x.num < 0
        · have hx : (x.num.natAbs : Int) = -x.num := by omega
          by_cases h2 : y.num < 0 <;> simp [h, h2, hx, Int.neg_mul]
        · have hx : (x.num.natAbs : Int) = x.num := by omega
          by_cases h2 : y.num < 0 <;> simp [h, h2, hx, Int.neg_mul]
      rw [e, ← Zij h0]
  · cases h
theorem rbyF_eq {x y z : Rat} (h : Zle x y = some z) : ZNh x y = some z := by
  unfold Zle at h; split at h
  · rename_i hh
    cases h
    unfold ZNh ZVg; rw [if_pos hh, Ze]; split <;> rfl
  · cases h
theorem ZZo {x y : Rat} {z : Int} (h : Zgg x y = some z) : Zmh x y = some z := by
  unfold Zgg at h; split at h
  · rename_i hh
    cases h
    unfold Zmh ZRd Z9f; rw [if_pos hh, Ze, Ze]
  · cases h
theorem Zdp {x y : Rat} {z : Bool} (h : Zwf x y = some z) : Zfi x y = some z := by
  unfold Zwf at h; split at h
  · rename_i hh
    cases h
    unfold Zfi Zgg; rw [if_pos hh, Ze]; congr 1; rw [Bool.eq_iff_iff]; simp only [beq_iff_eq, decide_eq_true_iff, Int.sign_eq_zero_iff_zero, Rat.num_eq_zero]; constructor
    · intro h; grind
    · intro h; grind
  · cases h
theorem Zho {x : Rat} {z : List UInt8} (h : Z8f x = some z) : Zzi x = some z := by
  unfold Z8f at h; split at h
  · rename_i hh; obtain ⟨h1, h2⟩ := hh
    cases h
    unfold Zzi ZWf; have l1 := Z1h (n := x.num.natAbs) (by omega); have l2 := Z1h (n := x.den) (by omega); rw [if_pos (Zld h1), Ze]; have e0 : ifb (decide (x.num < 0)) (bnd (ZEd x) fun y136 => some (!(y136))) (some false) = some (decide (x.num < 0)) := by
      unfold ZEd; by_cases h : x.num < 0
      · have : x ≠ 0 := fun e => by subst e; simp at h
        rw [decide_eq_true h, ZI, Ze, decide_eq_false this]; rfl
      · rw [decide_eq_false h, ZH]
    rw [e0, Ze]; have e1 : ifb (decide (x.num < 0)) (bnd (Z7b ([45] ++ ZAb x.num.natAbs)) fun y80 => some (([45] : List UInt8) ++ ZAb x.num.natAbs)) (some (ZAb x.num.natAbs)) = some ((if x.num < 0 then [45] else []) ++ ZAb x.num.natAbs) := by
      by_cases h : x.num < 0
      · rw [decide_eq_true h, ZI, Zce (by simp; omega), Ze, if_pos h]
      · rw [decide_eq_false h, ZH, if_neg h]; rfl
    rw [e1, Ze]; unfold txtQ Zec Ztd; have l3 : ((if x.num < 0 then [45] else []) ++ ZAb x.num.natAbs : List UInt8).length ≤ 4398046511105 := by
      rw [List.length_append]; split <;> simp <;> omega
    generalize ((if x.num < 0 then [45] else []) ++ ZAb x.num.natAbs : List UInt8) = s at *; rw [Ze, Z3j, Ze, Ze, Znl]; by_cases hd : x.den = 1
    · rw [hd]; simp [ifb, bnd]
    · have := x.den_nz; rw [decide_eq_true (by omega), ZI, Zce (by simp; omega), Ze, if_pos (Zld h2), Ze, Zce (by simp; omega), Ze, Ze, if_neg hd]; simp
  · cases h
noncomputable def ZRf (t : (List (List Int))) (graded : Bool) : Option (Rat × Int) :=
 bnd (Z1d t graded) fun a =>
 bnd (Zke ) fun b =>
 bnd (Zwf a.2 b) fun c =>
 ifb (c)
 (bnd (Zqe ) fun d =>
 some ((d, (5 : Int))))
 (bnd (ZRd a.1 a.2) fun e =>
 bnd (Zke ) fun f =>
 bnd (ZRd f a.2) fun g =>
 bnd (Zle e g) fun h =>
 some ((h, (0 : Int))))
noncomputable def ZXe (x : Rat) (y : Rat) : Option (Bool) :=
 bnd (ZSd x) fun a =>
 bnd (Z8f y) fun b =>
 some (a == b)
set_option maxRecDepth 100000
theorem Zem {k m : Nat} {x y : Rat} (h : sz k x) (h' : sz m y) (hk : k + m ≤ 1000000000) : ZTd x y = some (x + y) := by unfold ZTd; rw [if_pos ⟨h.sm (by omega), h'.sm (by omega)⟩]
theorem ZBk {k m : Nat} {x y : Rat} (h : sz k x) (h' : sz m y) (hk : k + m ≤ 1000000000) : ZRd x y = some (x - y) := by unfold ZRd; rw [if_pos ⟨h.sm (by omega), h'.sm (by omega)⟩]
theorem Zyi {k m : Nat} {x y : Rat} (h : sz k x) (h' : sz m y) (hk : k + m ≤ 1000000000) : Zee x y = some (x * y) := by unfold Zee; rw [if_pos ⟨h.sm (by omega), h'.sm (by omega)⟩]
theorem Zvk {k m : Nat} {x y : Rat} (h : sz k x) (h' : sz m y) (hk : k + m ≤ 1000000000) (hy : y ≠ 0) : Zle x y = some (x / y) := by unfold Zle; rw [if_pos ⟨h.sm (by omega), h'.sm (by omega)⟩, if_neg hy]
theorem Znq {k m : Nat} {x y : Rat} (h : sz k x) (h' : sz m y) (hk : k + m ≤ 1000000000) : Zwf x y = some (decide (x = y)) := by unfold Zwf; rw [if_pos ⟨h.sm (by omega), h'.sm (by omega)⟩]
theorem Zcj {k : Nat} {x : Rat} (h : sz k x) (hk : k ≤ 1000000000) : ZXe x x = some true := by
  unfold ZXe ZSd Z8f; rw [if_pos (h.ok (by omega)), Ze, Ze]; simp
theorem Zuj : Zqe = some (0 : Rat) := by unfold Zqe ZTb; rw [Ze]; rfl
theorem ZZj : Zke = some (1 : Rat) := by unfold Zke ZTb; rw [Ze]; rfl
def ZYd (i k : Nat) : Rat := if i = k then 1 else 0
def ZPc (i k : Nat) : Nat := if i ≤ k then k - i else i - k
def Z7d (n : Nat) (i k : Nat) : Rat := if i = k then 1 else 1 - ((ZPc i k : Int) : Rat) / (((n : Int) - 1 : Int) : Rat)
theorem Zsd : sz 1 (1 : Rat) := by constructor <;> decide
theorem Zrk (i k : Nat) : sz 200 (ZYd i k) := by
  unfold ZYd; split
  · exact Zsd.mono (by omega)
  · exact Zxh.mono (by omega)
theorem Zok {n i k : Nat} (hn : n ≤ 8) (hi : i < n) (hk : k < n) : sz 200 (Z7d n i k) := by
  unfold Z7d; split
  · exact Zsd.mono (by omega)
  · have h1 := Z5b (n := (ZPc i k : Int)) (by unfold ZPc; split <;> omega); have h2 := Z5b (n := (n : Int) - 1) (by omega); exact (Zif Zsd (ZOf h1 h2)).mono (by omega)
theorem Zxk (i k : Nat) : ((i : Int) == (k : Int)) = decide (i = k) := by
  rw [Bool.eq_iff_iff, beq_iff_eq, decide_eq_true_iff]; omega
theorem ZNp (i k : Nat) : ZHe (i : Int) (k : Int) = some (ZYd i k) := by
  unfold ZHe ZYd; rw [Zxk]; by_cases h : i = k
  · rw [decide_eq_true h, ZI, Zyd, Ze, if_pos h]; rfl
  · rw [decide_eq_false h, ZH, if_neg h]
theorem ZXn (i k : Nat) : max ((i : Int) - k) ((k : Int) - i) = (ZPc i k : Int) := by unfold ZPc; split <;> omega
theorem ZJo {t : List (List Int)} (hn : t.length ≤ 8) {i k : Nat} (hi : i < t.length) (hk : k < t.length) : Zwe (i : Int) (k : Int) t = some (Z7d t.length i k) := by
  unfold Zwe Z7d; rw [Zxk]; by_cases h : i = k
  · rw [decide_eq_true h, ZI, Zyd, Ze, if_pos h]; rfl
  · have h1 := Z5b (n := (ZPc i k : Int)) (by unfold ZPc; split <;> omega); have h2 := Z5b (n := (t.length : Int) - 1) (by omega); have hne : (((t.length : Int) - 1 : Int) : Rat) ≠ 0 := by
      intro h0; have := Rat.intCast_eq_zero_iff.1 h0; omega
    have e1 : (((1 : Int) : Int) : Rat) = 1 := rfl; rw [decide_eq_false h, ZH, if_neg h, Zyd, Ze, Zda (by omega) (by omega), Ze, Zda (by omega) (by omega), Ze, ZXn, Zyd, Ze, Zda (by omega) (by omega), Ze, Zyd, Ze, Zxj h1 h2 (by omega) hne, Ze, e1, Z2j Zsd (ZOf h1 h2) (by omega), Ze]
def wG (n : Nat) (b : Bool) (i k : Nat) : Rat := if b then Z7d n i k else ZYd i k
theorem sz_wG {n i k : Nat} (b : Bool) (hn : n ≤ 8) (hi : i < n) (hk : k < n) : sz 200 (wG n b i k) := by
  unfold wG; split
  · exact Zok hn hi hk
  · exact Zrk i k
theorem Zpn {n : Nat} (b : Bool) (hn : n ≤ 8) {i k : Nat} (hi : i < n) (hk : k < n) : Ztg (n : Int) (i : Int) (k : Int) b = some (wG n b i k) := by
  unfold Ztg wG Z7d ZYd; rw [Zxk]; by_cases h : i = k
  · rw [decide_eq_true h, ZI, ZZj, Ze, if_pos h, if_pos h]; cases b <;> rfl
  · rw [decide_eq_false h, ZH, if_neg h, if_neg h]
    cases b
    · rw [Bool.not_false, ZI, Zuj, Ze]; rfl
    · have h1 := Z5b (n := (ZPc i k : Int)) (by unfold ZPc; split <;> omega); have h2 := Z5b (n := (n : Int) - 1) (by omega); have hd : ifb (decide ((i : Int) - (k : Int) < (0 : Int))) (some (IntKind.i64.wrap (-((i : Int) - (k : Int))))) (some ((i : Int) - (k : Int))) = some (ZPc i k : Int) := by
        unfold ZPc; by_cases hl : (i : Int) - (k : Int) < 0
        · rw [decide_eq_true hl, ZI, if_pos (by omega)]; congr 1; have : IntKind.i64.wrap (-((i : Int) - (k : Int))) = -((i : Int) - (k : Int)) := ZWe (Z3b.2 ⟨by omega, by omega⟩); rw [this]; omega
        · rw [decide_eq_false hl, ZH, if_neg (by omega)]; congr 1; omega
      rw [Bool.not_true, ZH, Zda (by omega) (by omega), Ze, hd, Ze, Zda (by omega) (by omega), Ze]; have hq : Zoe (ZPc i k : Int) ((n : Int) - 1) = some (((ZPc i k : Int) : Rat) / (((n : Int) - 1 : Int) : Rat), 0) := by
        unfold Zoe; rw [if_neg (by omega), Rat.divInt_eq_div]
      rw [hq, Ze, ZZj, Ze, ZBk Zsd (ZOf h1 h2) (by omega), Ze]; rfl
theorem Zjm {t : List (List Int)} (g : Good t) (b : Bool) (ht : 0 < ZRa t ∧ ZRa t ≤ 64000000) (hb : ∀ i, i < t.length → t[i]!.any bad = false) : Z1d t b = some (shF t (wG t.length b)) := by
  unfold Z1d; have n8 := g.n8; have hw : ∀ i k, i < t.length → k < t.length → sz 200 (wG t.length b i k) := fun i k hi hk => sz_wG b n8 hi hk; obtain ⟨u, hu⟩ := ZOc (b := 8) (l := (t.length : Int)) (c := (t.length : Int)) (by omega) (by omega) (by omega) (by omega); rw [hu, Ze, Ze, Ze]; simp only [Int.toNat_natCast]; have tb : ∀ k, k ≤ t.length → 0 ≤ tot t k ∧ tot t k ≤ 8000000 * k := fun k hk => ZPe (t := t) (fun r hr => by obtain ⟨i, hi, rfl⟩ := List.getElem_of_mem hr; rw [g.sq i hi]; exact n8) k (fun j hj _ => by have := hb j hj; rwa [getElem!_pos t j hj] at this) hk; have rb : ∀ i, (hi : i < t.length) → ∀ k, k ≤ t[i].length → 0 ≤ (t[i].take k).sum ∧ (t[i].take k).sum ≤ 1000000 * k := fun i hi k hk => Z4e k (fun j hj _ => Z5e (by have := hb i hi; rwa [getElem!_pos t i hi] at this) j hj) hk; refine Z6a (y := (ZRa t, rcA t t.length t.length)) (Z6a (y := (ZRa t, rcA t t.length t.length)) (ZRb (fun k => (tot t k, (rcA t t.length k).1, (rcA t t.length k).2, (k : Int))) t.length rfl (by omega) (fun i hi => ?_) ?_) rfl) ?_
  · have hri := g.sq i hi; have hp := RC.outer g i (by omega); simp only; rw [decide_eq_true (by omega), ZI]; refine Z6a (y := (tot t i + t[i].sum, rcI t t.length i (rcA t t.length i))) (Z6a (y := (tot t i + t[i].sum, rcI t t.length i (rcA t t.length i))) (ZRb (fun k => (tot t i + (t[i].take k).sum, (it (rcF t i) (rcA t t.length i) k).1, (it (rcF t i) (rcA t t.length i) k).2, (k : Int))) t.length (by simp [it_zero]) (by omega) (fun k hk => ?_) ?_) rfl) ?_
    · have hq := RC.inner g hi hp k (by omega); obtain ⟨a0, a1, a2, a3⟩ := hq.at1 hi; obtain ⟨b0, b1, b2, b3⟩ := hq.at2 hk; have e := g.ok i k hi hk; have hki : k < t[i].length := by omega
      have eg := Zdg hi hki; have t1 := tb i (by omega); have t2 := rb i hi k (by omega); simp only; rw [decide_eq_true (by omega), ZI, Z2 hi, Ze, Z2 hki, Ze, Zda (by omega) (by omega), Ze, Z2 a0, Ze, Ze, Z2 hki, Ze, Zda (by omega) (by omega), Ze, Ze, Z2 b0, Ze, Ze, Z2 hki, Ze, Zda (by omega) (by omega), Ze, Ze, Zda (by omega) (by omega), Ze, Zuh, Zbl, a3, b3, eg, Zcg _ hki, Int.add_assoc]; rfl
    · simp only; rw [decide_eq_false (by omega), ZH, ← hri, List.take_length]; rfl
    · simp only; rw [Zda (by omega) (by omega), Ze, Zbh t hi]; rfl
  · simp only; rw [decide_eq_false (by omega), ZH]; rfl
  · simp only; have hp := (RC.outer g t.length (Nat.le_refl _)).mono (C := 64000000) (by omega); have hs := SZ.outer g hw hp t.length (Nat.le_refl _); unfold shF; simp only; generalize rcA t t.length t.length = p at *; rw [Zuj, Ze, Ze]; refine Z6a (y := pqA t (wG t.length b) p t.length t.length) (Z6a (y := pqA t (wG t.length b) p t.length t.length) (ZRb (fun k => ((pqA t (wG t.length b) p t.length k).1, (pqA t (wG t.length b) p t.length k).2, (k : Int))) t.length rfl (by omega) (fun i hi => ?_) ?_) rfl) ?_
    · have hri := g.sq i hi; have hz := SZ.outer g hw hp i (by omega); simp only; rw [decide_eq_true (by omega), ZI]; refine Z6a (y := pqI t (wG t.length b) p t.length i (pqA t (wG t.length b) p t.length i)) (Z6a (y := pqI t (wG t.length b) p t.length i (pqA t (wG t.length b) p t.length i)) (ZRb (fun k => ((it (pqF t (wG t.length b) p i) (pqA t (wG t.length b) p t.length i) k).1, (it (pqF t (wG t.length b) p i) (pqA t (wG t.length b) p t.length i) k).2, (k : Int))) t.length rfl (by omega) (fun k hk => ?_) ?_) rfl) ?_
      · have hq := SZ.inner g hw hp hi hz k (by omega); obtain ⟨a0, a1, a2, a3⟩ := hp.at1 hi; obtain ⟨b0, b1, b2, b3⟩ := hp.at2 hk; have e := g.ok i k hi hk; have hki : k < t[i].length := by omega
        have eg := Zdg hi hki; have zw := hw i k hi hk; have z1 := Z5b (n := t[i][k]) (by omega); have z2 := Z5b (n := p.1[i]) (by omega); have z3 := Z5b (n := p.2[k]) (by omega); have z4 := ZZc zw z1; have z5 := ZZc z2 z3; have z6 := ZZc zw z5; have rw1 : ∀ x : Int, ZTb x = some (x : Rat) := fun _ => rfl; simp only; rw [decide_eq_true (by omega), ZI, Zpn b n8 hi hk, Ze, Z2 hi, Ze, Z2 hki, Ze, rw1, Ze, Zyi zw z1 (by omega), Ze, Zem hq.1 z4 (by omega), Ze, Z2 a0, Ze, rw1, Ze, Z2 b0, Ze, rw1, Ze, Zyi z2 z3 (by omega), Ze, Zyi zw z5 (by omega), Ze, Zem hq.2 z6 (by omega), Ze, Zda (by omega) (by omega), Ze, Zuh, Zym, a3, b3, eg, Rat.mul_assoc]; rfl
      · simp only; rw [decide_eq_false (by omega), ZH]; rfl
      · rw [Zda (by omega) (by omega), Ze]; rfl
    · simp only; rw [decide_eq_false (by omega), ZH]
    · have zt := Z5b (n := ZRa t) (by omega); have rw1 : ∀ x : Int, ZTb x = some (x : Rat) := fun _ => rfl; have hne : ((ZRa t : Int) : Rat) ≠ 0 := by
        intro h; have := Rat.intCast_eq_zero_iff.1 h; omega
      have hne2 : ((ZRa t : Int) : Rat) * ((ZRa t : Int) : Rat) ≠ 0 := by
        intro h; rcases Rat.mul_eq_zero.1 h with h | h <;> exact hne h
      rw [rw1, Ze, Zvk hs.1 zt (by omega) hne, Ze, Zyi zt zt (by omega), Ze, Zvk hs.2 (ZZc zt zt) (by omega) hne2, Ze]
noncomputable def ZGi (t : (List (List Int))) : Option (Rat × Int) :=
 bnd (ZVe t) fun a =>
 ifb (a.2 != ((0 : Int)))
 (some (((0 : Rat), a.2)))
 (bnd (Z2f t a.1 (())) fun b =>
 some ((b.1, (0 : Int))))
noncomputable def Zsi (t : (List (List Int))) (g : (List (List Int))) : Option (Rat × Int) :=
 bnd (ZVe t) fun a =>
 ifb (a.2 != ((0 : Int)))
 (some (((0 : Rat), a.2)))
 (bnd (Zqi t a.1 g) fun b =>
 bnd (bnd (Z0b b.1 b.2) fun d =>
 bnd (Z3a ((1 : Int))) fun e =>
 bnd (Z0b e b.2) fun f =>
 bnd (ZTc d f) fun c =>
 some ((c.2, c.1)))
 (fun (p : Int × Rat) => match p with
 | (h, i) =>
 (ifb (h != ((0 : Int)))
 (some (((0 : Rat), (5 : Int))))
 (some ((i, (0 : Int)))))))
noncomputable def ZOh (t : (List (List Int))) : Option (Rat × Int) :=
 bnd (Zsi t t) fun a =>
 some ((a.1, a.2))
noncomputable def Z0i (t : (List (List Int))) : Option (Bool) :=
 ifb (decide ((40 : Int) < (t.length : Int)))
 (bnd (ZYe ) fun g =>
 some g)
 (bnd (ZGi t) fun a =>
 bnd (ZPg t) fun b =>
 bnd (ZOh t) fun c =>
 bnd (ZRg t) fun d =>
 ifb (d != ((0 : Int)))
 (bnd (ifb (a.2 == d)
 (ifb (b.2 == d)
 (ifb (c.2 == d)
 (bnd (Z3d a.1) fun h =>
 ifb (h)
 (bnd (Z3d b.1) fun i =>
 ifb (i)
 (bnd (Z3d c.1) fun j =>
 ifb (j)
 (bnd (ZYe ) fun k =>
 some k)
 (some false))
 (some false))
 (some false))
 (some false))
 (some false))
 (some false))
 (fun (l : Bool) =>
 (some l)))
 (bnd (Z1d t false) fun m =>
 bnd (ZRf t false) fun e =>
 bnd (ZRf t true) fun f =>
 bnd (ifb (a.2 == ((0 : Int)))
 (bnd (ZXe a.1 m.1) fun n =>
 ifb (n)
 (ifb (b.2 == e.2)
 (bnd (ZXe b.1 e.1) fun o =>
 ifb (o)
 (ifb (c.2 == f.2)
 (bnd (ZXe c.1 f.1) fun p =>
 ifb (p)
 (bnd (ZYe ) fun q =>
 some q)
 (some false))
 (some false))
 (some false))
 (some false))
 (some false))
 (some false))
 (fun (r : Bool) =>
 (some r))))
set_option maxRecDepth 100000
def kap (s : Rat × Rat) : Rat × Int := if s.2 = 1 then (0, 5) else ((s.1 - s.2) / (1 - s.2), 0)
theorem Zum {s : Rat × Rat} (h : SZ 40000 s) : sz 200000 (kap s).1 := by
  unfold kap; split
  · exact Zxh.mono (by omega)
  · exact (ZOf (Zif h.1 h.2) (Zif Zsd h.2)).mono (by omega)
theorem ZKj {x : Rat} : 1 - x = 0 ↔ x = 1 := by constructor <;> intro h <;> grind
theorem ZTk {s : Rat × Rat} (h : SZ 40000 s) : (bnd (bnd (Z0b s.1 s.2) fun y105 => bnd (Z3a ((1 : Int))) fun y114 => bnd (Z0b y114 s.2) fun y123 => bnd (ZTc y105 y123) fun y132 => some ((y132.2, y132.1)))
  (fun (p : Int × Rat) => match p with
  | (x76, x78) => (ifb (x76 != ((0 : Int))) (some (((0 : Rat), (5 : Int)))) (some ((x78, (0 : Int))))))) = some (kap s) := by
  have e1 : (((1 : Int) : Int) : Rat) = 1 := rfl; have s1 := Zif h.1 h.2; have s2 := Zif Zsd h.2; rw [Z2j h.1 h.2 (by omega), Ze, Zyd, Ze, e1, Z2j Zsd h.2 (by omega), Ze]; unfold kap ZTc; rw [if_pos ⟨s1.ok (by omega), s2.ok (by omega)⟩, Ze]; by_cases h0 : s.2 = 1
  · rw [if_pos (ZKj.2 h0), if_pos h0]; rfl
  · rw [if_neg (fun k => h0 (ZKj.1 k)), if_neg h0]; rfl
theorem ZNk {t : List (List Int)} {b : Bool} {s : Rat × Rat} (hs : Z1d t b = some s) (h : SZ 40000 s) : ZRf t b = some (kap s) := by
  unfold ZRf kap; have s1 := Zif h.1 h.2; have s2 := Zif Zsd h.2; rw [hs, Ze, ZZj, Ze, Znq h.2 Zsd (by omega), Ze]; by_cases h0 : s.2 = 1
  · rw [decide_eq_true h0, ZI, Zuj, Ze, if_pos h0]
  · rw [decide_eq_false h0, ZH, if_neg h0, ZBk h.1 h.2 (by omega), Ze, Ze, ZBk Zsd h.2 (by omega), Ze, Zvk s1 s2 (by omega) (fun k => h0 (ZKj.1 k)), Ze]
theorem ZVn (t : List (List Int)) (hl : t.length ≤ 9223372036854775807) : Z0i t = some true := by
  unfold Z0i; rw [Zmn]; by_cases h40 : 40 < t.length
  · rw [decide_eq_true (by omega), ZI, Ze]
  rw [decide_eq_false (by omega), ZH]; unfold ZGi ZPg ZOh Zri Zsi; rw [ZUn t hl, Zkq t hl]; simp only [Ze]; by_cases hc : (Zid t).2 = 0
  · have hk : okT t = true := by
      by_cases h : okT t = true
      · exact h
      · unfold Zid at hc; rw [if_neg h] at hc; simp at hc
    have hb : t.any (·.any bad) = false := by
      by_cases h : t.any (·.any bad) = true
      · unfold Zid at hc; rw [if_pos hk, if_pos h] at hc; simp at hc
      · simpa using h
    have h0 : ZRa t ≠ 0 := by
      intro h; unfold Zid at hc; rw [if_pos hk, if_neg (by rw [hb]; simp), if_pos h] at hc; simp at hc
    have e : Zid t = (ZRa t, 0) := by unfold Zid; rw [if_pos hk, if_neg (by rw [hb]; simp), if_neg h0]
    have g := Good.of hk hb; have n8 := g.n8; have tb := ZPe (t := t) (fun r hr => by obtain ⟨i, hi, rfl⟩ := List.getElem_of_mem hr; rw [g.sq i hi]; exact n8) t.length (fun j hj _ => ZWd hb j hj) (Nat.le_refl _); have tb' : 0 < ZRa t ∧ ZRa t ≤ 64000000 := by
      have : tot t t.length = ZRa t := rfl; omega
    have hbi : ∀ i, i < t.length → t[i]!.any bad = false := fun i hi => by rw [getElem!_pos t i hi]; exact ZWd hb i hi
    have z0 := Z1k g (w := ZYd) (fun i k _ _ => Zrk i k) (by omega); have z1 := Z1k g (w := Z7d t.length) (fun i k hi hk => Zok n8 hi hk) (by omega); have f0 : shG ZHe t (ZRa t) = some (shF t ZYd) := Zgm g (fun i k _ _ => ZNp i k) (fun i k _ _ => Zrk i k) tb'; have f1 : shG (fun i k => Zwe i k t) t (ZRa t) = some (shF t (Z7d t.length)) := Zgm g (fun i k hi hk => ZJo n8 hi hk) (fun i k hi hk => Zok n8 hi hk) tb'; have r0 : Z1d t false = some (shF t ZYd) := Zjm g false tb' hbi; have r1 : Z1d t true = some (shF t (Z7d t.length)) := Zjm g true tb' hbi; have c0 : ((0 : Int) != 0) = false := rfl; rw [e]; simp only [c0, ZH]; rw [Ztq, ZMo, f0, f1, r0, ZNk r0 z0, ZNk r1 z1]; simp only [Ze]; rw [ZTk z0, ZTk z1]; simp only [Ze]; have b0 : ((0 : Int) == 0) = true := rfl; simp only [beq_self_eq_true, ZI]; rw [Zcj z0.1 (by omega), Zcj (Zum z0) (by omega), Zcj (Zum z1) (by omega)]; simp only [Ze, ZI]
  · have c0 : ((Zid t).2 != 0) = true := by simpa using hc
    have q0 : Z3d (0 : Rat) = some true := rfl; rw [c0]; simp only [ZI, Ze, beq_self_eq_true, q0]
end Go.Eng
namespace Go.Eng
open Go.RowKit
theorem Zg {α : Type _} {a b : α} (h : some a = some b) : a = b := Option.some.inj h
theorem Zv (b : Bool) : b = true ∨ b = false := (Bool.eq_false_or_eq_true b)
theorem leT {a b c : Zd} (h : a.le b) (k : b.le c) : a.le c := Zd.le_trans h k
theorem leR (v : Zd) : v.le v := Zd.le_refl v
theorem Zm {P : Program} {Q : Exit → Act → World → Prop} {a : Act} {w : World} {id : Nat} {l : List Oper} (h : wpList P l.toArray Q l a w) : (Code.region id l.toArray false).wp P Q a w := wp_region_lit h
theorem Zf {P : Program} {Q : Exit → Act → World → Prop} {a : Act} {w : World} {x y : Code} (h : ∀ K : Act → World → Prop, (∀ a w, y.wp P Q a w → K a w) → x.wp P (Exit.then K Q) a w) : (Code.seq x y).wp P Q a w := wp_seq_k h
theorem Zp {α : Type} {A : Rep α} {v v' : Zd} {cs : List Value} {x : α} (hv : v.le v') (h : A.rel v cs x) : A.rel v' cs x := A.mono hv h
theorem Z9 {α : Type} (A : Rep α) {v : Zd} {cs : List Value} {x : α} (h : A.rel v cs x) : cs.all ZLa = true := A.flat h
theorem Atm {v v' : Zd} {b off : Nat} {cs : List Value} (h : v.le v') (k : At v b off cs) : At v' b off cs := At.mono h k
end Go.Eng
namespace Go.Eng
open Go.Proofs Go.RowKit
theorem Zel : Z8g Tryz.prog 291 20 1 := ⟨5, fun _ => by kernel_rfl, fun _ => by kernel_rfl⟩
theorem ZHb : Z8g Tryz.prog 51 3 2 := ⟨50, fun _ => by kernel_rfl, fun _ => by kernel_rfl⟩
theorem Z1c : ZLe Tryz.prog 211 212 .u64 .u32 := fun _ _ => by kernel_rfl
theorem ZUk : ZLe Tryz.prog 211 5 .u64 .u8 := fun _ _ => by kernel_rfl
theorem ZSk : ZLe Tryz.prog 212 2 .u32 .i64 := fun _ _ => by kernel_rfl
theorem Zrc : ZLe Tryz.prog 212 211 .u32 .u64 := fun _ _ => by kernel_rfl
theorem ZLi : ZLe Tryz.prog 2 211 .i64 .u64 := fun _ _ => by kernel_rfl
theorem Zfp : ZLe Tryz.prog 2 212 .i64 .u32 := fun _ _ => by kernel_rfl
theorem Zyj : ZLe Tryz.prog 3 253 .i64 .u64 := fun _ _ => by kernel_rfl
theorem k_cv5_3 : ZLe Tryz.prog 5 3 .u8 .i64 := fun _ _ => by kernel_rfl
theorem ZJk : Elem Tryz.prog 263 9 1 16 (Value.string (Z7 [])) := ⟨Tryz.underlying263, by kernel_rfl, rfl, by decide⟩
theorem Zmc : Elem Tryz.prog 28 3 1 8 (Value.int IntKind.i64 0) := ⟨Tryz.underlying28, by kernel_rfl, rfl, by decide⟩
theorem ZIc : Elem Tryz.prog 30 211 1 8 (Value.int IntKind.u64 0) := ⟨Tryz.underlying30, by kernel_rfl, rfl, by decide⟩
theorem ZCb : Elem Tryz.prog 40 212 1 4 (Value.int IntKind.u32 0) := ⟨Tryz.underlying40, by kernel_rfl, rfl, by decide⟩
theorem Z1j : Elem Tryz.prog 80 34 3 56 (Value.agg #[Value.bool false, Value.slice none 0 0, Value.slice none 0 0]) := ⟨Tryz.underlying80, by kernel_rfl, rfl, by decide⟩
theorem ZOl : Elem Tryz.prog 85 42 3 56 (Value.agg #[Value.bool false, Value.slice none 0 0, Value.slice none 0 0]) := ⟨Tryz.underlying85, by kernel_rfl, rfl, by decide⟩
theorem k_en100 : ZS Tryz.prog 100 := fun _ _ => by kernel_rfl
theorem ZGe : ZS Tryz.prog 101 := fun _ _ => by kernel_rfl
theorem ZIg : ZS Tryz.prog 102 := fun _ _ => by kernel_rfl
theorem Z3g : ZS Tryz.prog 103 := fun _ _ => by kernel_rfl
theorem ZJd : ZS Tryz.prog 104 := fun _ _ => by kernel_rfl
theorem k_en105 : ZS Tryz.prog 105 := fun _ _ => by kernel_rfl
theorem k_en106 : ZS Tryz.prog 106 := fun _ _ => by kernel_rfl
theorem ZZl : ZS Tryz.prog 108 := fun _ _ => by kernel_rfl
theorem Zqk : ZS Tryz.prog 109 := fun _ _ => by kernel_rfl
theorem Zfe : ZS Tryz.prog 110 := fun _ _ => by kernel_rfl
theorem Zre : ZS Tryz.prog 111 := fun _ _ => by kernel_rfl
theorem Zud : ZS Tryz.prog 112 := fun _ _ => by kernel_rfl
theorem k_en113 : ZS Tryz.prog 113 := fun _ _ => by kernel_rfl
theorem Zig : ZS Tryz.prog 114 := fun _ _ => by kernel_rfl
theorem Z3h : ZS Tryz.prog 115 := fun _ _ => by kernel_rfl
theorem k_en119 : ZS Tryz.prog 119 := fun _ _ => by kernel_rfl
theorem k_en120 : ZS Tryz.prog 120 := fun _ _ => by kernel_rfl
theorem k_en121 : ZS Tryz.prog 121 := fun _ _ => by kernel_rfl
theorem Zwm : ZS Tryz.prog 124 := fun _ _ => by kernel_rfl
theorem Zbi : ZS Tryz.prog 126 := fun _ _ => by kernel_rfl
theorem k_en127 : ZS Tryz.prog 127 := fun _ _ => by kernel_rfl
theorem ZYl : ZS Tryz.prog 137 := fun _ _ => by kernel_rfl
theorem k_en138 : ZS Tryz.prog 138 := fun _ _ => by kernel_rfl
theorem Zue : ZS Tryz.prog 139 := fun _ _ => by kernel_rfl
theorem k_en14 : ZS Tryz.prog 14 := fun _ _ => by kernel_rfl
theorem k_en140 : ZS Tryz.prog 140 := fun _ _ => by kernel_rfl
theorem k_en141 : ZS Tryz.prog 141 := fun _ _ => by kernel_rfl
theorem k_en142 : ZS Tryz.prog 142 := fun _ _ => by kernel_rfl
theorem ZLm : ZS Tryz.prog 143 := fun _ _ => by kernel_rfl
theorem k_en144 : ZS Tryz.prog 144 := fun _ _ => by kernel_rfl
theorem Zli : ZS Tryz.prog 145 := fun _ _ => by kernel_rfl
theorem ZTi : ZS Tryz.prog 146 := fun _ _ => by kernel_rfl
theorem Zhj : ZS Tryz.prog 147 := fun _ _ => by kernel_rfl
theorem ZMd : ZS Tryz.prog 149 := fun _ _ => by kernel_rfl
theorem Zdj : ZS Tryz.prog 15 := fun _ _ => by kernel_rfl
theorem Zsm : ZS Tryz.prog 150 := fun _ _ => by kernel_rfl
theorem ZVl : ZS Tryz.prog 151 := fun _ _ => by kernel_rfl
theorem k_en152 : ZS Tryz.prog 152 := fun _ _ => by kernel_rfl
theorem k_en154 : ZS Tryz.prog 154 := fun _ _ => by kernel_rfl
theorem Zik : ZS Tryz.prog 155 := fun _ _ => by kernel_rfl
theorem Z8d : ZS Tryz.prog 156 := fun _ _ => by kernel_rfl
theorem k_en157 : ZS Tryz.prog 157 := fun _ _ => by kernel_rfl
theorem Z3k : ZS Tryz.prog 158 := fun _ _ => by kernel_rfl
theorem k_en159 : ZS Tryz.prog 159 := fun _ _ => by kernel_rfl
theorem k_en161 : ZS Tryz.prog 161 := fun _ _ => by kernel_rfl
theorem ZBl : ZS Tryz.prog 167 := fun _ _ => by kernel_rfl
theorem k_en168 : ZS Tryz.prog 168 := fun _ _ => by kernel_rfl
theorem k_en169 : ZS Tryz.prog 169 := fun _ _ => by kernel_rfl
theorem Z0k : ZS Tryz.prog 17 := fun _ _ => by kernel_rfl
theorem k_en170 : ZS Tryz.prog 170 := fun _ _ => by kernel_rfl
theorem k_en171 : ZS Tryz.prog 171 := fun _ _ => by kernel_rfl
theorem k_en172 : ZS Tryz.prog 172 := fun _ _ => by kernel_rfl
theorem k_en173 : ZS Tryz.prog 173 := fun _ _ => by kernel_rfl
theorem Z5k : ZS Tryz.prog 174 := fun _ _ => by kernel_rfl
theorem k_en175 : ZS Tryz.prog 175 := fun _ _ => by kernel_rfl
theorem Zrl : ZS Tryz.prog 176 := fun _ _ => by kernel_rfl
theorem Zph : ZS Tryz.prog 177 := fun _ _ => by kernel_rfl
theorem k_en178 : ZS Tryz.prog 178 := fun _ _ => by kernel_rfl
theorem k_en179 : ZS Tryz.prog 179 := fun _ _ => by kernel_rfl
theorem k_en18 : ZS Tryz.prog 18 := fun _ _ => by kernel_rfl
theorem k_en181 : ZS Tryz.prog 181 := fun _ _ => by kernel_rfl
theorem ZKk : ZS Tryz.prog 182 := fun _ _ => by kernel_rfl
theorem k_en183 : ZS Tryz.prog 183 := fun _ _ => by kernel_rfl
theorem k_en184 : ZS Tryz.prog 184 := fun _ _ => by kernel_rfl
theorem k_en185 : ZS Tryz.prog 185 := fun _ _ => by kernel_rfl
theorem ZEm : ZS Tryz.prog 190 := fun _ _ => by kernel_rfl
theorem k_en196 : ZS Tryz.prog 196 := fun _ _ => by kernel_rfl
theorem k_en197 : ZS Tryz.prog 197 := fun _ _ => by kernel_rfl
theorem k_en198 : ZS Tryz.prog 198 := fun _ _ => by kernel_rfl
theorem ZKe : ZS Tryz.prog 20 := fun _ _ => by kernel_rfl
theorem Zwd : ZS Tryz.prog 21 := fun _ _ => by kernel_rfl
theorem k_en22 : ZS Tryz.prog 22 := fun _ _ => by kernel_rfl
theorem ZIk : ZS Tryz.prog 23 := fun _ _ => by kernel_rfl
theorem ZCk : ZS Tryz.prog 24 := fun _ _ => by kernel_rfl
theorem Zdd : ZS Tryz.prog 25 := fun _ _ => by kernel_rfl
theorem k_en26 : ZS Tryz.prog 26 := fun _ _ => by kernel_rfl
theorem ZMf : ZS Tryz.prog 28 := fun _ _ => by kernel_rfl
theorem ZBd : ZS Tryz.prog 29 := fun _ _ => by kernel_rfl
theorem Z9c : ZS Tryz.prog 30 := fun _ _ => by kernel_rfl
theorem Zff : ZS Tryz.prog 31 := fun _ _ => by kernel_rfl
theorem ZPi : ZS Tryz.prog 32 := fun _ _ => by kernel_rfl
theorem Z7g : ZS Tryz.prog 35 := fun _ _ => by kernel_rfl
theorem k_en37 : ZS Tryz.prog 37 := fun _ _ => by kernel_rfl
theorem Zwi : ZS Tryz.prog 38 := fun _ _ => by kernel_rfl
theorem k_en39 : ZS Tryz.prog 39 := fun _ _ => by kernel_rfl
theorem k_en40 : ZS Tryz.prog 40 := fun _ _ => by kernel_rfl
theorem Zfj : ZS Tryz.prog 41 := fun _ _ => by kernel_rfl
theorem k_en52 : ZS Tryz.prog 52 := fun _ _ => by kernel_rfl
theorem k_en54 : ZS Tryz.prog 54 := fun _ _ => by kernel_rfl
theorem Znd : ZS Tryz.prog 61 := fun _ _ => by kernel_rfl
theorem Znj : ZS Tryz.prog 62 := fun _ _ => by kernel_rfl
theorem ZAj : ZS Tryz.prog 64 := fun _ _ => by kernel_rfl
theorem ZBf : ZS Tryz.prog 80 := fun _ _ => by kernel_rfl
theorem ZJl : ZS Tryz.prog 81 := fun _ _ => by kernel_rfl
theorem Z5l : ZS Tryz.prog 82 := fun _ _ => by kernel_rfl
theorem ZWl : ZS Tryz.prog 83 := fun _ _ => by kernel_rfl
theorem Zub : ZS Tryz.prog 84 := fun _ _ => by kernel_rfl
theorem Zic : ZS Tryz.prog 85 := fun _ _ => by kernel_rfl
theorem Zmf : ZS Tryz.prog 86 := fun _ _ => by kernel_rfl
theorem Z6j : ZS Tryz.prog 87 := fun _ _ => by kernel_rfl
theorem Z9h : ZS Tryz.prog 88 := fun _ _ => by kernel_rfl
theorem Z0j : ZS Tryz.prog 89 := fun _ _ => by kernel_rfl
theorem Zak : ZS Tryz.prog 90 := fun _ _ => by kernel_rfl
theorem Zai : ZS Tryz.prog 91 := fun _ _ => by kernel_rfl
theorem k_en92 : ZS Tryz.prog 92 := fun _ _ => by kernel_rfl
theorem ZNi : ZS Tryz.prog 93 := fun _ _ => by kernel_rfl
theorem Zck : ZS Tryz.prog 94 := fun _ _ => by kernel_rfl
theorem k_en95 : ZS Tryz.prog 95 := fun _ _ => by kernel_rfl
theorem Zfh : ZS Tryz.prog 96 := fun _ _ => by kernel_rfl
theorem k_en97 : ZS Tryz.prog 97 := fun _ _ => by kernel_rfl
theorem k_en98 : ZS Tryz.prog 98 := fun _ _ => by kernel_rfl
theorem Zag : ZS Tryz.prog 99 := fun _ _ => by kernel_rfl
theorem ZBm : EqB Tryz.prog 4 := fun _ _ _ => by kernel_rfl
theorem ZTg : Zzf Tryz.prog 148 add64Entry := ⟨_, Tryz.func148, by kernel_rfl, by kernel_rfl, by kernel_rfl, by kernel_rfl⟩
theorem ZQk : Zzf Tryz.prog 180 ZSj := ⟨_, Tryz.func180, by kernel_rfl, by kernel_rfl, by kernel_rfl, by kernel_rfl⟩
theorem ZWk : Zsc Tryz.prog 100 0 0 := fun _ _ _ => by kernel_rfl
theorem ZUe : Zsc Tryz.prog 100 1 3 := fun _ _ _ => by kernel_rfl
theorem Znb : Zsc Tryz.prog 32 0 0 := fun _ _ _ => by kernel_rfl
theorem Zdb : Zsc Tryz.prog 32 1 1 := fun _ _ _ => by kernel_rfl
theorem Zvb : Zsc Tryz.prog 34 0 0 := fun _ _ _ => by kernel_rfl
theorem ZKb : Zsc Tryz.prog 34 1 2 := fun _ _ _ => by kernel_rfl
theorem ZMa : Zsc Tryz.prog 42 0 0 := fun _ _ _ => by kernel_rfl
theorem Zac : Zsc Tryz.prog 42 1 1 := fun _ _ _ => by kernel_rfl
theorem ZNj : Zsc Tryz.prog 42 2 2 := fun _ _ _ => by kernel_rfl
theorem ZDh : Zsc Tryz.prog 50 0 0 := fun _ _ _ => by kernel_rfl
theorem Zeh : Zsc Tryz.prog 50 1 1 := fun _ _ _ => by kernel_rfl
theorem ZRi : Zsc Tryz.prog 53 0 0 := fun _ _ _ => by kernel_rfl
theorem Zlh : Zsc Tryz.prog 53 1 3 := fun _ _ _ => by kernel_rfl
theorem Zyn : Zsc Tryz.prog 53 2 6 := fun _ _ _ => by kernel_rfl
theorem Zja : Tryz.prog.follows .mixedOrders = true := by kernel_rfl
theorem Zkc : NeB Tryz.prog 4 := fun _ _ _ => by kernel_rfl
theorem Zpa : Z0c Tryz.prog 22 28 1 := ⟨fun _ => by kernel_rfl, fun _ => by kernel_rfl⟩
theorem Zoj : Z0c Tryz.prog 263 9 1 := ⟨fun _ => by kernel_rfl, fun _ => by kernel_rfl⟩
theorem ZBa : Z0c Tryz.prog 28 3 1 := ⟨fun _ => by kernel_rfl, fun _ => by kernel_rfl⟩
theorem ZX : Z0c Tryz.prog 30 211 1 := ⟨fun _ => by kernel_rfl, fun _ => by kernel_rfl⟩
theorem Zga : Z0c Tryz.prog 40 212 1 := ⟨fun _ => by kernel_rfl, fun _ => by kernel_rfl⟩
theorem Zod : Z0c Tryz.prog 80 34 3 := ⟨fun _ => by kernel_rfl, fun _ => by kernel_rfl⟩
theorem Zcl : Z0c Tryz.prog 96 50 2 := ⟨fun _ => by kernel_rfl, fun _ => by kernel_rfl⟩
theorem Z8e : Sized Tryz.prog 100 4 true := ⟨fun _ => by kernel_rfl, fun _ => by kernel_rfl⟩
theorem Ztk : Sized Tryz.prog 102 4 true := ⟨fun _ => by kernel_rfl, fun _ => by kernel_rfl⟩
theorem ZTe : Sized Tryz.prog 2 1 false := ⟨fun _ => by kernel_rfl, fun _ => by kernel_rfl⟩
theorem Zza : Sized Tryz.prog 211 1 false := ⟨fun _ => by kernel_rfl, fun _ => by kernel_rfl⟩
theorem Zqb : Sized Tryz.prog 212 1 false := ⟨fun _ => by kernel_rfl, fun _ => by kernel_rfl⟩
theorem Z6c : Sized Tryz.prog 22 1 false := ⟨fun _ => by kernel_rfl, fun _ => by kernel_rfl⟩
theorem Zqc : Sized Tryz.prog 28 1 false := ⟨fun _ => by kernel_rfl, fun _ => by kernel_rfl⟩
theorem ZJa : Sized Tryz.prog 3 1 false := ⟨fun _ => by kernel_rfl, fun _ => by kernel_rfl⟩
theorem Zya : Sized Tryz.prog 30 1 false := ⟨fun _ => by kernel_rfl, fun _ => by kernel_rfl⟩
theorem ZIa : Sized Tryz.prog 32 2 true := ⟨fun _ => by kernel_rfl, fun _ => by kernel_rfl⟩
theorem Zs : Sized Tryz.prog 34 3 true := ⟨fun _ => by kernel_rfl, fun _ => by kernel_rfl⟩
theorem Zla : Sized Tryz.prog 4 1 false := ⟨fun _ => by kernel_rfl, fun _ => by kernel_rfl⟩
theorem ZSb : Sized Tryz.prog 40 1 false := ⟨fun _ => by kernel_rfl, fun _ => by kernel_rfl⟩
theorem ZM : Sized Tryz.prog 42 3 true := ⟨fun _ => by kernel_rfl, fun _ => by kernel_rfl⟩
theorem k_sz5 : Sized Tryz.prog 5 1 false := ⟨fun _ => by kernel_rfl, fun _ => by kernel_rfl⟩
theorem Z4a : Sized Tryz.prog 50 2 true := ⟨fun _ => by kernel_rfl, fun _ => by kernel_rfl⟩
theorem ZDc : Sized Tryz.prog 53 9 true := ⟨fun _ => by kernel_rfl, fun _ => by kernel_rfl⟩
theorem ZTj : Sized Tryz.prog 55 9 true := ⟨fun _ => by kernel_rfl, fun _ => by kernel_rfl⟩
theorem ZZe : Sized Tryz.prog 80 1 false := ⟨fun _ => by kernel_rfl, fun _ => by kernel_rfl⟩
theorem k_sz9 : Sized Tryz.prog 9 1 false := ⟨fun _ => by kernel_rfl, fun _ => by kernel_rfl⟩
theorem ZLk : ∀ w, (zeroValue 100).run Tryz.prog w = .ok (Value.agg #[Value.bool false, Value.slice none 0 0, Value.slice none 0 0, Value.slice none 0 0]) w := fun _ => by kernel_rfl
theorem ZNm : ∀ w, (zeroValue 102).run Tryz.prog w = .ok (Value.agg #[Value.bool false, Value.slice none 0 0, Value.slice none 0 0, Value.slice none 0 0]) w := fun _ => by kernel_rfl
theorem k_zv270 : ∀ w, (zeroValue 270).run Tryz.prog w = .ok (Value.agg #[Value.pointer none, Value.slice none 0 0]) w := fun _ => by kernel_rfl
theorem k_zv291 : ∀ w, (zeroValue 291).run Tryz.prog w = .ok (Value.agg #[Value.int IntKind.u8 0, Value.int IntKind.u8 0, Value.int IntKind.u8 0, Value.int IntKind.u8 0, Value.int IntKind.u8 0, Value.int IntKind.u8 0, Value.int IntKind.u8 0, Value.int IntKind.u8 0, Value.int IntKind.u8 0, Value.int IntKind.u8 0, Value.int IntKind.u8 0, Value.int IntKind.u8 0, Value.int IntKind.u8 0, Value.int IntKind.u8 0, Value.int IntKind.u8 0, Value.int IntKind.u8 0, Value.int IntKind.u8 0, Value.int IntKind.u8 0, Value.int IntKind.u8 0, Value.int IntKind.u8 0]) w := fun _ => by kernel_rfl
theorem Z5c : ∀ w, (zeroValue 32).run Tryz.prog w = .ok (Value.agg #[Value.bool false, Value.slice none 0 0]) w := fun _ => by kernel_rfl
theorem Zsa : ∀ w, (zeroValue 34).run Tryz.prog w = .ok (Value.agg #[Value.bool false, Value.slice none 0 0, Value.slice none 0 0]) w := fun _ => by kernel_rfl
theorem Z5a : ∀ w, (zeroValue 42).run Tryz.prog w = .ok (Value.agg #[Value.bool false, Value.slice none 0 0, Value.slice none 0 0]) w := fun _ => by kernel_rfl
theorem k_zv50 : ∀ w, (zeroValue 50).run Tryz.prog w = .ok (Value.agg #[Value.int IntKind.i64 0, Value.int IntKind.i64 0]) w := fun _ => by kernel_rfl
theorem Z9k : ∀ w, (zeroValue 53).run Tryz.prog w = .ok (Value.agg #[Value.bool false, Value.slice none 0 0, Value.slice none 0 0, Value.bool false, Value.slice none 0 0, Value.slice none 0 0, Value.bool false, Value.slice none 0 0, Value.slice none 0 0]) w := fun _ => by kernel_rfl
theorem ZDk : ∀ w, (zeroValue 55).run Tryz.prog w = .ok (Value.agg #[Value.bool false, Value.slice none 0 0, Value.slice none 0 0, Value.bool false, Value.slice none 0 0, Value.slice none 0 0, Value.bool false, Value.slice none 0 0, Value.slice none 0 0]) w := fun _ => by kernel_rfl
theorem qzero_w {b : World} {a : Zd} (hv : VIn a b) {c : List Value} {x : Rat} (d : Rep.rel Zk a c x) {z : Bool} (H : Z1i x = some z) : Ret Tryz.prog 21 #[Zk.val c] b a (fun y v' => ∃ e, y = Z6.val e ∧ Z6.rel v' e z) := by
  obtain ⟨g, h, i, j, k, l, m, rfl⟩ := ZYa d; refine ZV (K := 8) (args := [.agg #[.bool g, .slice h i j, .slice k l m]]) hv Tryz.func21 rfl rfl zl fun f S => ?_; unfold Z1i at H; refine sr (ob S rfl (cs := [.bool g, .slice h i j, .slice k l m]) rfl fun p f w S => mw S rfl fun f S => oe (sr (ov S rfl (Zy S rfl Zvb) fun f S => ov S rfl (Zy S rfl Zdb) fun f S => ?_))); obtain ⟨n, q⟩ := ZGc d; obtain ⟨rfl, o⟩ := Zdc n; refine ov S rfl (lo S rfl Zya 0 rfl rfl) fun f S => ov S rfl (ZF S (Zu o) rfl rfl ZX) fun f S => ov S rfl (Zi S rfl rfl Z1) fun f S => mw S rfl fun f S => oe (wp_ret ?_); obtain rfl := Zg H; refine Zz S (ZN rfl (ZG S rfl)) ⟨[.bool (((((Zj 18446744073709551616 ((x.num).natAbs))).length : Int)) == ((0 : Int)))], rfl, ZFa⟩
theorem ZOd {b : World} {a : Zd} (hv : VIn a b) {c : List Value} {x : Rat} (e : Rep.rel Zk a c x) {z : Bool} (hm : Z3d x = some z) :
    Ret Tryz.prog 21 #[Zk.val c] b a (fun y v' => ∃ d, y = Z6.val d ∧ Z6.rel v' d z) :=
  qzero_w hv e (Zpo hm)
theorem cmp_w {m : World} {e : Zd} (hv : VIn e m) {A : List Value} {a : (List Int)} (c : Rep.rel (Zt (Za .u64)) e A a) {B : List Value} {b : (List Int)} (d : Rep.rel (Zt (Za .u64)) e B b) {z : Int} (H : Zth a b = some z) : Ret Tryz.prog 87 #[(Zt (Za .u64)).val A, (Zt (Za .u64)).val B] m e (fun y v' => ∃ C, y = (Za .i64).val C ∧ (Za .i64).rel v' C z) := by
  obtain ⟨D, E, G, rfl⟩ := Zta c; obtain ⟨I, J, L, rfl⟩ := Zta d; refine ZV (K := 41) (args := [.slice D (E) G, .slice I (J) L]) hv Tryz.func87 rfl rfl zl fun f S => ?_; unfold Zth at H; refine sr (mw S rfl fun f S => oe (Zf fun _ P => sr (mv S rfl fun f S => ov S rfl (ZF S (Zu c) rfl rfl ZX) fun f S => mv S rfl fun f S => ov S rfl (ZF S (Zu d) rfl rfl ZX) fun f S => ov S rfl (Zi S rfl rfl Zvd) fun f S => oe ?_))); rcases Zv (((a.length : Int)) != ((b.length : Int))) with g | g
  · have H := Zw H g; refine ZE S rfl g (Zf fun _ Q => sr (mv S rfl fun f S => ov S rfl (ZF S (Zu c) rfl rfl ZX) fun f S => mv S rfl fun f S => ov S rfl (ZF S (Zu d) rfl rfl ZX) fun f S => ov S rfl (Zi S rfl rfl Zba) fun f S => oe ?_)); rcases Zv (decide ((a.length : Int) < (b.length : Int))) with h | h
    · have H := Zw H h; refine ZE S rfl h (sr (mw S rfl fun f S => oe (wp_ret (ZR (ZR ?_))))); obtain rfl := Zg H; refine Zz S (ZN rfl (ZG S rfl)) ⟨[.int .i64 ((-1 : Int))], rfl, (Zr (by decide))⟩
    have H := Zx H h; refine ZD S rfl h (wp_skip (Zc (Q _ _ (sr (mw S rfl fun f S => oe (wp_ret (ZR ?_))))))); obtain rfl := Zg H; refine Zz S (ZN rfl (ZG S rfl)) ⟨[.int .i64 ((1 : Int))], rfl, (Zr (by decide))⟩
  have H := Zx H g; refine ZD S rfl g (wp_skip (Zc (P _ _ (Zf fun _ R => Zf fun _ T => ?_)))); obtain ⟨ar, M, H⟩ := Zb H; refine Zm (mv S rfl fun f S => ov S rfl (ZF S (Zu c) rfl rfl ZX) fun f S => ov S rfl (Zi S rfl rfl (Zwa M)) fun f S => mw S rfl fun f S => Zl (Zc (T _ _ ?_))); obtain ⟨U, V, o⟩ := Zb H; refine ZQ (fun f w => ∃  (p : Zd), (.inl (())) = U ∧ Zd.le e p ∧ St 41 m e [] [] p f w) (fun _ W => ?_) ?_
  · have H := V; refine wp_block ?_; obtain ⟨au, X, q⟩ := Zb H; refine Zqa X (fun Y f w => ∃ (i : Int) (r : Zd), i = Y ∧ Zd.le e r ∧ St 41 m e [(0, .slice D (E) G), (1, .slice I (J) L), (5, .int .i64 (i))] [] r f w ∧ inR .i64 i) ⟨_, _, rfl, (leR _), (S.fr' rfl), (Z5 M).2⟩ ?_; rintro _ f w st ⟨i, r, hq, n, S, av⟩ H aw Z s; subst hq; refine Zf fun _ aa => sr (mv S rfl fun f S => ov S rfl (Zi S rfl rfl Zrb) fun f S => oe ?_); rcases Zv (decide ((0 : Int) ≤ i)) with j | j
    · have H := Zw H j; refine ZE S rfl j (wp_skip (Zc (aa _ _ (Zf fun _ ab => wp_block (Zf fun _ ac => Zf fun _ ad => ?_))))); obtain ⟨ae, t, H⟩ := Zb H; obtain ⟨af, u, H⟩ := Zb H; refine Zia (fl := #[true, true, true, true, true, true, true, true, true]) Zja (by kernel_rfl) S ?_; intro ops O F w S; refine rfa O F 0 rfl rfl S (Zo S rfl) fun f S => rfa O F 1 rfl rfl S (Zo S rfl) fun f S => ?_; have c := Zp n c; obtain ⟨_, ax, ay, az, rfl, ag, ah⟩ := Zha c (Zh t).2.1; obtain ⟨rfl, aA⟩ := ah; refine rfa O F 2 rfl rfl S (ZO S rfl rfl ZX (Zh t).1 (ltI (Zu c) (Zh t).2.2.1)) fun f S => rfa O F 3 rfl rfl S (ZU S rfl Zza (S.view ag)) fun f S => rfa O F 4 rfl rfl S (Zo S rfl) fun f S => rfa O F 5 rfl rfl S (Zo S rfl) fun f S => ?_; have d := Zp n d; obtain ⟨_, aB, aC, aD, rfl, ai, aj⟩ := Zha d (Zh u).2.1; obtain ⟨rfl, aE⟩ := aj; refine rfa O F 6 rfl rfl S (ZO S rfl rfl ZX (Zh u).1 (ltI (Zu d) (Zh u).2.2.1)) fun f S => rfa O F 7 rfl rfl S (ZU S rfl Zza (S.view ai)) fun f S => rfa O F 8 rfl rfl S (Zi S rfl rfl Zba) fun f S => Z3 O F (Zc (ad _ _ ?_)); rcases Zv (decide (ae < af)) with k | k
      · have H := Zw H k; refine ZE S rfl k (sr (mw S rfl fun f S => oe (wp_ret (ZR (Z0a (ZR ?_)))))); obtain rfl := Zg H; have hq := s _ rfl; subst hq; have H := q; refine ZR (Z0a ?_); obtain rfl := Zg H; have H := o; refine ZR (ZR ?_); obtain rfl := Zg H; refine Zz S (ZN rfl (ZG S rfl)) ⟨[.int .i64 ((-1 : Int))], rfl, (Zr (by decide))⟩
      have H := Zx H k; refine ZD S rfl k (wp_skip (Zc (ac _ _ (Zf fun _ ak => ?_)))); obtain ⟨al, v, H⟩ := Zb H; obtain ⟨am, x, H⟩ := Zb H; refine Zia (fl := #[true, true, true, true, true, true, true, true, true]) Zja (by kernel_rfl) S ?_; intro ops O F w S; refine rfa O F 0 rfl rfl S (Zo S rfl) fun f S => rfa O F 1 rfl rfl S (Zo S rfl) fun f S => ?_; obtain ⟨aF, an, ao⟩ := ZFc c (Zh v).2.1; obtain ⟨rfl, aG⟩ := ao; refine rfa O F 2 rfl rfl S (ZO S rfl rfl ZX (Zh v).1 (ltI (Zu c) (Zh v).2.2.1)) fun f S => rfa O F 3 rfl rfl S (ZU S rfl Zza (S.view an)) fun f S => rfa O F 4 rfl rfl S (Zo S rfl) fun f S => rfa O F 5 rfl rfl S (Zo S rfl) fun f S => ?_; obtain ⟨aH, ap, aq⟩ := ZFc d (Zh x).2.1; obtain ⟨rfl, aI⟩ := aq; refine rfa O F 6 rfl rfl S (ZO S rfl rfl ZX (Zh x).1 (ltI (Zu d) (Zh x).2.2.1)) fun f S => rfa O F 7 rfl rfl S (ZU S rfl Zza (S.view ap)) fun f S => rfa O F 8 rfl rfl S (Zi S rfl rfl ZEa) fun f S => Z3 O F (Zc (ak _ _ ?_)); rcases Zv (decide (am < al)) with l | l
      · have H := Zw H l; refine ZE S rfl l (sr (mw S rfl fun f S => oe (wp_ret (Z0a (ZR ?_))))); obtain rfl := Zg H; have hq := s _ rfl; subst hq; have H := q; refine ZR (Z0a ?_); obtain rfl := Zg H; have H := o; refine ZR (ZR ?_); obtain rfl := Zg H; refine Zz S (ZN rfl (ZG S rfl)) ⟨[.int .i64 ((1 : Int))], rfl, (Zr (by decide))⟩
      have H := Zx H l; refine ZD S rfl l (wp_skip (Zoa (Zc (ab _ _ ?_)))); obtain ⟨aJ, N, H⟩ := Zb H; refine Zm (mv S rfl fun f S => ov S rfl (Zi S rfl rfl (Zwa N)) fun f S => mw S rfl fun f S => Zl ?_); obtain rfl := Zg H; refine Z _ rfl _ _ ⟨_, _, rfl, n, (S.fr' rfl), (Z5 N).2⟩
    have H := Zx H j; refine ZD S rfl j (wp_exit (ZP ?_)); obtain rfl := Zg H; have hq := s _ rfl; subst hq; have H := q; refine ZP (Zna ?_); obtain rfl := Zg H; refine Zc (W _ _ ⟨_, rfl, (leT (leR _) n), (S.fr' rfl)⟩)
  rintro f w ⟨p, hq, aK, S⟩; subst hq; have H := o; refine Zc (R _ _ (sr (mw S rfl fun f S => oe (wp_ret ?_)))); obtain rfl := Zg H; refine Zz S (ZN rfl (ZG S rfl)) ⟨[.int .i64 ((0 : Int))], rfl, (Zr (by decide))⟩
theorem cmp_c {d : World} {c : Zd} (hv : VIn c d) {e : List Value} {a : Nat} (f : Rep.rel ZC c e a) {g : List Value} {b : Nat} (h : Rep.rel ZC c g b) {z : Int} (hm : cmpF a b = some z) :
    Ret Tryz.prog 87 #[ZC.val e, ZC.val g] d c (fun y v' => ∃ i, y = (Za .i64).val i ∧ (Za .i64).rel v' i z) :=
  cmp_w hv f h ((cmp_eq (Zdm f) (Zdm h)).trans hm)
theorem cut_w {e : World} {d : Zd} (hv : VIn d e) {E : List Value} {a : (List Int)} (F : Rep.rel (Zt (Za .u64)) d E a) {z : (List Int)} (H : Zdh a = some z) : Ret Tryz.prog 149 #[(Zt (Za .u64)).val E] e d (fun y v' => ∃ G, y = (Zt (Za .u64)).val G ∧ (Zt (Za .u64)).rel v' G z) := by
  obtain ⟨M, N, O, rfl⟩ := Zta F; refine ZV (K := 21) (args := [.slice M (N) O]) hv Tryz.func149 rfl rfl zl fun f S => ?_; unfold Zdh at H; refine sr ?_; have S := S.nilLoc 211 1; refine ov S rfl (Zka S (y := .slice (mkA none) 0 0) rfl) fun f S => oe (Zf fun _ P => ?_); obtain ⟨Q, R, T⟩ := Zb H; refine ZQ (fun f w => ∃ (B : (List Int)) (j : Option Addr) (k : Nat) (l : Nat) (m : Zd), B = Q ∧ Zd.le d m ∧ St 21 e d [(0, .slice j (k) l)] [] m f w ∧ Rep.rel (Zt (Za .u64)) m [.slice j (k) l] B) (fun _ U => ?_) ?_
  · have H := R; refine wp_block ?_; obtain ⟨am, V, W⟩ := Zb H; have S := S.reorder (ℓ' := []) [] rfl (by decide); refine Zqa V (fun X f w => ∃ (n : (List Int)) (o : Option Addr) (q : Nat) (s : Nat) (g : Zd), n = X ∧ Zd.le d g ∧ St 21 e d [(0, .slice o (q) s)] [] g f w ∧ Rep.rel (Zt (Za .u64)) g [.slice o (q) s] n) ⟨_, _, _, _, _, rfl, (leR _), (S.fr' rfl), F⟩ ?_; rintro _ f w st ⟨n, o, q, s, g, hq, I, S, c⟩ H an Y Z; subst hq; refine Zf fun _ aa => Zf fun _ ab => ?_; obtain ⟨ac, ad, ae⟩ := Zb H; refine ZQ (fun f w => ∃ (u : Bool) (C : Zd), u = ac ∧ Zd.le g C ∧ St 21 e d [(0, .slice o (q) s), (14, .bool (u))] [] C f w) (fun _ J => ?_) ?_
    · have H := ad; rcases Zv (decide ((0 : Int) < (n.length : Int))) with h | h
      · have H := Zw H h; obtain ⟨ao, af, H⟩ := Zb H; obtain ⟨ap, D, H⟩ := Zb H; refine Zm (mv S rfl fun f S => ov S rfl (ZF S (Zu c) rfl rfl ZX) fun f S => ov S rfl (Zi S rfl rfl ZEa) fun f S => ?_); have S := S.bool (t := 5) rfl h; refine mv S rfl fun f S => opy S rfl rfl rfl rfl (Zo S rfl) fun f S => opy S rfl rfl rfl rfl (Zo S rfl) fun f S => opy S rfl rfl rfl rfl (ZF S (Zu c) rfl rfl ZX) fun f S => opy S rfl rfl rfl rfl (Zi S rfl rfl (Zwa af)) fun f S => ?_; obtain ⟨_, aq, ar, au, rfl, ag, ah⟩ := Zha c (Zh D).2.1; obtain ⟨rfl, av⟩ := ah; refine opy S rfl rfl rfl rfl (ZO S rfl rfl ZX (Zh D).1 (ltI (Zu c) (Zh D).2.2.1)) fun f S => opy S rfl rfl rfl rfl (ZU S rfl Zza (S.view ag)) fun f S => opy S rfl rfl rfl rfl (Zi S rfl rfl Z1) fun f S => ov S rfl (ZB S (b := true) rfl rfl) fun f S => Zl ?_; obtain rfl := Zg H; refine Zc (J _ _ ⟨_, _, rfl, (leR _), (S.fr' rfl)⟩)
      have H := Zx H h; refine Zm (mv S rfl fun f S => ov S rfl (ZF S (Zu c) rfl rfl ZX) fun f S => ov S rfl (Zi S rfl rfl ZEa) fun f S => ?_); have S := S.bool (t := 5) rfl h; refine mv S rfl fun f S => opn S rfl rfl rfl rfl fun f S => opn S rfl rfl rfl rfl fun f S => opn S rfl rfl rfl rfl fun f S => opn S rfl rfl rfl rfl fun f S => opn S rfl rfl rfl rfl fun f S => opn S rfl rfl rfl rfl fun f S => opn S rfl rfl rfl rfl fun f S => ov S rfl (ZB S (b := false) rfl rfl) fun f S => Zl ?_; obtain rfl := Zg H; refine Zc (J _ _ ⟨_, _, rfl, (leR _), (S.fr' rfl)⟩)
    rintro f w ⟨u, C, hq, v, S⟩; subst hq; have H := ae; refine Zc (ab _ _ ?_); rcases Zv (u) with i | i
    · have H := Zw H i; refine ZE S rfl i (wp_skip (Zc (aa _ _ (wp_block ?_)))); obtain ⟨ai, aj, H⟩ := Zb H; obtain ⟨aw, x, H⟩ := Zb H; refine Zm (mv S rfl fun f S => mv S rfl fun f S => ?_); have c := Zp v c; refine ov S rfl (ZF S (Zu c) rfl rfl ZX) fun f S => ov S rfl (Zi S rfl rfl (Zwa aj)) fun f S => ?_; obtain ⟨ax, ay, ak, L⟩ := Zkh S (A := (Za .u64)) (p := (0 : Int)) (r := ai) ZX c (ZMb x).1 (ZMb x).2.1 (ZMb x).2.2.1; rw [← (ZMb x).2.2.2.1] at L; refine ov S rfl (ak rfl (.inl ⟨rfl, rfl⟩) (.inr ⟨_, _, rfl, rfl⟩)) fun f S => mw S rfl fun f S => Zl (Zoa ?_); obtain rfl := Zg H; refine Y _ rfl _ _ ⟨_, _, _, _, _, rfl, (leT I v), (S.fr' rfl), L⟩
    have H := Zx H i; refine ZD S rfl i (wp_exit (ZP ?_)); obtain rfl := Zg H; have hq := Z _ rfl; subst hq; have H := W; refine ZP (Zna ?_); obtain rfl := Zg H; have c := Zp v c; refine Zc (U _ _ ⟨_, _, _, _, _, rfl, (leT (leT (leR _) I) v), (S.fr' rfl), c⟩)
  rintro f w ⟨B, j, k, l, m, hq, az, S, al⟩; subst hq; have H := T; refine Zc (P _ _ (sr (mv S rfl fun f S => mw S rfl fun f S => oe (wp_ret ?_)))); obtain rfl := Zg H; refine Zz S (ZN rfl (ZG S rfl)) ⟨[.slice j (k) l], rfl, al⟩
theorem Zxd {d : World} {b : Zd} (hv : VIn b d) {e : List Value} {a : (List Int)} (c : Rep.rel (Zt (Za .u64)) b e a) {z : Nat} (hm : ZGb a = some z) :
    Ret Tryz.prog 149 #[(Zt (Za .u64)).val e] d b (fun y v' => ∃ f, y = ZC.val f ∧ ZC.rel v' f z) :=
  by cases hm; exact cut_w hv c (cut_eq (ZYj c).1 (ZYj c).2)
theorem minus_w {B : World} {e : Zd} (hv : VIn e B) {c0 : List Value} {a : Nat} (k : Rep.rel ZC e c0 a) {c1 : List Value} {b : Nat} (p : Rep.rel ZC e c1 b) {z : Nat} (H : Zkg a b = some z) : Ret Tryz.prog 151 #[ZC.val c0, ZC.val c1] B e (fun y v' => ∃ r0, y = ZC.val r0 ∧ ZC.rel v' r0 z) := by
  obtain ⟨q1, Q, R, rfl⟩ := Z8 k; obtain ⟨T, U, V, rfl⟩ := Z8 p; refine ZV (K := 41) (args := [.slice q1 Q R, .slice T U V]) hv Tryz.func151 rfl rfl zl fun f S => ?_; unfold Zkg at H; refine sr (mw S rfl fun f S => oe (Zf fun _ ai => ?_)); obtain ⟨a1, N, H⟩ := Zb H; refine Zm (mv S rfl fun f S => ov S rfl (ZF S (Zu k) rfl rfl ZX) fun f S => ?_); obtain ⟨aa, ab⟩ : ∃ c : List Value, c = (List.replicate ((((Zj 18446744073709551616 a)).length : Int)).toNat [.int .u64 ((0 : Int))]).flatten := ⟨_, rfl⟩; obtain ⟨aj, w, ak, S⟩ := Zib ZIc S (l := (((Zj 18446744073709551616 a)).length : Int)) (c := (((Zj 18446744073709551616 a)).length : Int)) (ZY N).1 (ZY N).2.1 (ZY N).2.2.1 (ZY N).2.2.2 ab; have al : Rep.rels (Za .u64) e aa (List.replicate ((((Zj 18446744073709551616 a)).length : Int)).toNat ((0 : Int))) := by rw [ab]; exact Zbb (show Rep.rel (Za .u64) _ [.int .u64 ((0 : Int))] _ from (Zr (by decide))) _
  refine Zua wn rfl zl (ak rfl rfl) S fun f S => mw S rfl fun f S => Zl (Zc (ai _ _ (sr (mw S rfl fun f S => oe (Zf fun _ am => sr (mv S rfl fun f S => ov S rfl (ZF S (Zu k) rfl rfl ZX) fun f S => mv S rfl fun f S => oe ?_)))))); obtain ⟨an, ao, ap⟩ := Zb H; refine ZQ (fun f w => ∃ (q : (List Int)) (C : Option Nat) (r : Nat) (D : Nat) (W : List Value) (O : Zd), q = an ∧ Zd.le e O ∧ St 41 B e [(5, .slice (mkA C) (r) D)] [Loc.own C 211 1 (r) D W] O f w ∧ Rep.rels (Za .u64) O W q ∧ r = q.length) (fun _ aq => ?_) ?_
  · have H := ao; refine wp_block ?_; obtain ⟨a2, ar, au⟩ := Zb H; refine Zqa ar (fun av f w => ∃ (s : (List Int)) (t : Int) (d : Int) (u : Option Nat) (h : Nat) (m : Nat) (g : List Value) (E : Zd), (s, t, d) = av ∧ Zd.le e E ∧ St 41 B e [(1, .slice T U V), (5, .slice (mkA u) (h) m), (6, .int .u64 (t)), (13, .slice q1 Q R), (14, .int .i64 ((((Zj 18446744073709551616 a)).length : Int))), (15, .int .i64 (d))] [Loc.own u 211 1 (h) m g] E f w ∧ Rep.rels (Za .u64) E g s ∧ h = s.length ∧ inR .u64 t ∧ inR .i64 d) ⟨_, _, _, some aj, ((((Zj 18446744073709551616 a)).length : Int)).toNat, ((((Zj 18446744073709551616 a)).length : Int)).toNat, aa, _, rfl, (leR _), (S.fr' rfl), al, (ZWa (x := (0 : Int))), (by decide), (by decide)⟩ ?_; rintro _ f w st ⟨s, t, d, u, h, m, g, E, hq, P, S, F, G, a3, a4⟩ H a5 aw ax; subst hq; refine sr (ov S rfl (Zi S rfl rfl Zba) fun f S => oe (Zf fun _ ay => ?_)); rcases Zv (decide (d < (((Zj 18446744073709551616 a)).length : Int))) with I | I
    · have H := Zw H I; refine ZE S rfl I (wp_skip (Zc (ay _ _ (Zf fun _ az => wp_block (Zf fun _ aA => ?_))))); obtain ⟨ac, X, H⟩ := Zb H; refine Zm (mv S rfl fun f S => ?_); have k := Zp P k; obtain ⟨_, aB, aC, a6, rfl, aD, aE⟩ := Zha k (Zh X).2.1; obtain ⟨rfl, aF⟩ := aE; refine ov S rfl (ZO S rfl rfl ZX (Zh X).1 (ltI (Zu k) (Zh X).2.2.1)) fun f S => ov S rfl (ZU S rfl Zza (S.view aD)) fun f S => mw S rfl fun f S => mw S rfl fun f S => Zl (Zc (aA _ _ (sr (mw S rfl fun f S => oe (Zf fun _ aG => sr (mv S rfl fun f S => mv S rfl fun f S => ?_)))))); have p := Zp P p; refine ov S rfl (ZF S (Zu p) rfl rfl ZX) fun f S => ov S rfl (Zi S rfl rfl Zba) fun f S => oe ?_; obtain ⟨aH, aI, aJ⟩ := Zb H; refine ZQ (fun f w => ∃ (J : Int) (L : Zd), J = aH ∧ Zd.le E L ∧ St 41 B e [(1, .slice T U V), (5, .slice (mkA u) (h) m), (6, .int .u64 (t)), (7, .int .i64 (d)), (8, .int .u64 (ac)), (9, .int .u64 (J)), (13, .slice (some ⟨aB, aC, none⟩) Q R), (14, .int .i64 ((((Zj 18446744073709551616 a)).length : Int))), (15, .int .i64 (d))] [Loc.own u 211 1 (h) m g] L f w ∧ inR .u64 J) (fun _ ad => ?_) ?_
      · have H := aI; rcases Zv (decide (d < (((Zj 18446744073709551616 b)).length : Int))) with M | M
        · have H := Zw H M; refine ZE S rfl M ?_; obtain ⟨a7, Y, H⟩ := Zb H; refine Zm (mv S rfl fun f S => mv S rfl fun f S => ?_); obtain ⟨_, a8, a9, ba, rfl, aK, aL⟩ := Zha p (Zh Y).2.1; obtain ⟨rfl, aM⟩ := aL; refine ov S rfl (ZO S rfl rfl ZX (Zh Y).1 (ltI (Zu p) (Zh Y).2.2.1)) fun f S => ov S rfl (ZU S rfl Zza (S.view aK)) fun f S => mw S rfl fun f S => Zl ?_; obtain rfl := Zg H; refine Zc (ad _ _ ⟨_, _, rfl, (leR _), (S.fr' rfl), aM⟩)
        have H := Zx H M; refine ZD S rfl M (wp_skip ?_); obtain rfl := Zg H; refine Zc (ad _ _ ⟨_, _, rfl, (leR _), (S.fr' rfl), (by decide)⟩)
      rintro f w ⟨J, L, hq, ae, S, aN⟩; subst hq; have H := aJ; have F := ZK ae F; refine Zc (aG _ _ ?_); obtain ⟨o, Z, H⟩ := Zb H; obtain ⟨bb, v, H⟩ := Zb H; refine Zm (mv S rfl fun f S => mv S rfl fun f S => mv S rfl fun f S => mv S rfl fun f S => mv S rfl fun f S => ov S rfl (Zef S [.int .u64 (ac), .int .u64 (J), .int .u64 (t)] (ZOk ZQk aF aN Z) rfl rfl) fun f S => mv S rfl fun f S => ov S rfl (ZJ S rfl rfl) fun f S => ov S rfl (ZJ S rfl rfl) fun f S => ?_); obtain ⟨aO, rfl⟩ := Zjb S (j := 0) rfl (Zmb G (Zh v).2.2.2); have af := Zra F (Zh v).2.1; obtain ⟨bc, aP⟩ : ∃ c, (List.take (Za .u64).n (List.drop ((d).toNat * (Za .u64).n) g)) = c := ⟨_, rfl⟩; rw [aP] at af; obtain ⟨rfl, bd⟩ := af; refine ov S rfl (ZO S rfl rfl ZX (Zh v).1 (ltI G (Zh v).2.2.1)) fun f S => ?_; obtain ⟨w, aQ, S⟩ := ZDb S Zza (off := 0 + (d).toNat * 1) (z := .int .u64 (o.1)) (cs := [.int .u64 (o.1)]) (Zpb rfl) rfl (i := 0) rfl (Zzb S (j := 0) rfl (ltN G (Zh v).2.2.2)) (by first | rfl | simp [ZLa]); have aR : Rep.rels (Za .u64) L (List.take (0 + (d).toNat * 1) g ++ [Value.int IntKind.u64 (o.1)] ++ List.drop (0 + (d).toNat * 1 + 1) g) (s.set (d).toNat o.1) := Zyb F (Zh v).2.2.2 (show Rep.rel (Za .u64) L [.int .u64 (o.1)] _ from (Zr (Zjl Z))) rfl rfl
      have aS : h = (s.set (d).toNat o.1).length := Ztb G; refine ZZ wn rfl (aQ rfl rfl) (mw S rfl fun f S => Zl (Zoa (Zc (az _ _ ?_)))); obtain ⟨be, ag, H⟩ := Zb H; refine Zm (ov S rfl (Zi S rfl rfl (Zaa ag)) fun f S => mv S rfl fun f S => Zl ?_); obtain rfl := Zg H; refine aw _ rfl _ _ ⟨_, _, _, some aO, h, m, (List.take (0 + (d).toNat * 1) g ++ [Value.int IntKind.u64 (o.1)] ++ List.drop (0 + (d).toNat * 1 + 1) g), _, rfl, (leT P ae), (S.fr' rfl), aR, aS, (Zgl Z), (Z5 ag).2⟩
    have H := Zx H I; refine ZD S rfl I (wp_exit (ZP ?_)); obtain rfl := Zg H; have hq := ax _ rfl; subst hq; have H := au; refine ZP (Zna ?_); obtain rfl := Zg H; refine Zc (aq _ _ ⟨_, u, h, m, g, _, rfl, (leT (leR _) P), (S.fr' rfl), F, G⟩)
  rintro f w ⟨q, C, r, D, W, O, hq, bf, S, aT, aU⟩; subst hq; have H := ap; refine Zc (am _ _ (Zf fun _ aV => ?_)); obtain ⟨bg, aW, H⟩ := Zb H; refine Zm (mv S rfl fun f S => ?_); obtain ⟨bh, bi, S, aX⟩ := S.pubSlice (i := 0) (A := (Za .u64)) (l := q) (ℓ' := []) rfl rfl aU aT rfl; refine opc S rfl (Zn S [.slice (mkA C) (r) D] ZMd rfl rfl) (Zxd S.vin (show Rep.rel (Zt (Za .u64)) _ [.slice (mkA C) (r) D] q from aX) aW) ?_; rintro _ bj f w bk ⟨bm, rfl, ah⟩ S; obtain ⟨aY, aZ, a0, rfl⟩ := Z8 ah; refine mw S rfl fun f S => Zl (Zc (aV _ _ (wp_ret ?_))); obtain rfl := Zg H; refine Zz S (ZN rfl (ZG S rfl)) ⟨[.slice aY aZ a0], rfl, ah⟩
theorem ZIl {d : World} {c : Zd} (hv : VIn c d) {e : List Value} {a : Nat} (h : Rep.rel ZC c e a) {f : List Value} {b : Nat} (i : Rep.rel ZC c f b) {z : Nat} (hm : Zxf a b = some z) :
    Ret Tryz.prog 151 #[ZC.val e, ZC.val f] d c (fun y v' => ∃ g, y = ZC.val g ∧ ZC.rel v' g z) :=
  minus_w hv h i (ZNn hm)
theorem plus_w {p : World} {g : Zd} (hv : VIn g p) {c0 : List Value} {a : Nat} (p0 : Rep.rel ZC g c0 a) {c1 : List Value} {b : Nat} (p1 : Rep.rel ZC g c1 b) {z : Nat} (H : Zug a b = some z) : Ret Tryz.prog 150 #[ZC.val c0, ZC.val c1] p g (fun y v' => ∃ r0, y = ZC.val r0 ∧ ZC.rel v' r0 z) := by
  obtain ⟨q1, n2, k3, rfl⟩ := Z8 p0; obtain ⟨q4, n5, k6, rfl⟩ := Z8 p1; refine ZV (K := 56) (args := [.slice q1 n2 k3, .slice q4 n5 k6]) hv Tryz.func150 rfl rfl zl fun f S => ?_; unfold Zug at H; refine sr (mw S rfl fun f S => oe (Zf fun _ aE => sr (mv S rfl fun f S => ov S rfl (ZF S (Zu p0) rfl rfl ZX) fun f S => mv S rfl fun f S => ov S rfl (ZF S (Zu p1) rfl rfl ZX) fun f S => ov S rfl (Zi S rfl rfl Zba) fun f S => oe ?_))); obtain ⟨aF, aG, aH⟩ := Zb H; refine ZQ (fun f w => ∃ (h : Nat) (aa : Nat) (ab : Option Addr) (F : Nat) (G : Nat) (I : Option Addr) (J : Nat) (L : Nat) (o : Zd), (h, aa) = aF ∧ Zd.le g o ∧ St 56 p g [(0, .slice ab F G), (1, .slice I J L)] [] o f w ∧ Rep.rel ZC o [.slice ab F G] h ∧ Rep.rel ZC o [.slice I J L] aa) (fun _ ao => ?_) ?_
  · have H := aG; rcases Zv (decide ((((Zj 18446744073709551616 a)).length : Int) < (((Zj 18446744073709551616 b)).length : Int))) with M | M
    · have H := Zw H M; refine ZE S rfl M (Zm (mv S rfl fun f S => mv S rfl fun f S => mw S rfl fun f S => mw S rfl fun f S => Zl ?_)); obtain rfl := Zg H; refine Zc (ao _ _ ⟨_, _, _, _, _, _, _, _, _, rfl, (leR _), (S.fr' rfl), p1, p0⟩)
    have H := Zx H M; refine ZD S rfl M (wp_skip ?_); obtain rfl := Zg H; refine Zc (ao _ _ ⟨_, _, _, _, _, _, _, _, _, rfl, (leR _), (S.fr' rfl), p0, p1⟩)
  rintro f w ⟨h, aa, ab, F, G, I, J, L, o, hq, bA, S, q, N⟩; subst hq; have H := aH; refine Zc (aE _ _ (Zf fun _ aI => ?_)); obtain ⟨ap, aJ, H⟩ := Zb H; obtain ⟨bB, ac, H⟩ := Zb H; refine Zm (mv S rfl fun f S => ov S rfl (ZF S (Zu q) rfl rfl ZX) fun f S => mv S rfl fun f S => ov S rfl (ZF S (Zu q) rfl rfl ZX) fun f S => ov S rfl (Zi S rfl rfl (Zaa aJ)) fun f S => ?_); obtain ⟨aq, ar⟩ : ∃ c : List Value, c = (List.replicate ((((Zj 18446744073709551616 h)).length : Int)).toNat [.int .u64 ((0 : Int))]).flatten := ⟨_, rfl⟩; obtain ⟨aK, w, aL, S⟩ := Zib ZIc S (l := (((Zj 18446744073709551616 h)).length : Int)) (c := ap) (ZY ac).1 (ZY ac).2.1 (ZY ac).2.2.1 (ZY ac).2.2.2 ar; have aM : Rep.rels (Za .u64) o aq (List.replicate ((((Zj 18446744073709551616 h)).length : Int)).toNat ((0 : Int))) := by rw [ar]; exact Zbb (show Rep.rel (Za .u64) _ [.int .u64 ((0 : Int))] _ from (Zr (by decide))) _
  refine Zua wn rfl zl (aL rfl rfl) S fun f S => mw S rfl fun f S => Zl (Zc (aI _ _ (sr (mw S rfl fun f S => oe (Zf fun _ aN => sr (mv S rfl fun f S => ov S rfl (ZF S (Zu q) rfl rfl ZX) fun f S => mv S rfl fun f S => oe ?_)))))); obtain ⟨aO, aP, aQ⟩ := Zb H; refine ZQ (fun f w => ∃ (r : (List Int)) (d : Int) (ad : Option Nat) (O : Nat) (ae : Nat) (u : List Value) (v : Zd), (r, d) = aO ∧ Zd.le o v ∧ St 56 p g [(5, .slice (mkA ad) (O) ae), (6, .int .u64 (d))] [Loc.own ad 211 1 (O) ae u] v f w ∧ Rep.rels (Za .u64) v u r ∧ O = r.length ∧ inR .u64 d) (fun _ aR => ?_) ?_
  · have H := aP; refine wp_block ?_; obtain ⟨bC, aS, aT⟩ := Zb H; refine Zqa aS (fun aU f w => ∃ (B : (List Int)) (C : Int) (e : Int) (D : Option Nat) (m : Nat) (s : Nat) (k : List Value) (P : Zd), (B, C, e) = aU ∧ Zd.le o P ∧ St 56 p g [(1, .slice I J L), (5, .slice (mkA D) (m) s), (6, .int .u64 (C)), (23, .slice ab F G), (24, .int .i64 ((((Zj 18446744073709551616 h)).length : Int))), (25, .int .i64 (e))] [Loc.own D 211 1 (m) s k] P f w ∧ Rep.rels (Za .u64) P k B ∧ m = B.length ∧ inR .u64 C ∧ inR .i64 e) ⟨_, _, _, some aK, ((((Zj 18446744073709551616 h)).length : Int)).toNat, (ap).toNat, aq, _, rfl, (leR _), (S.fr' rfl), aM, (ZWa (x := (0 : Int))), (by decide), (by decide)⟩ ?_; rintro _ f w st ⟨B, C, e, D, m, s, k, P, hq, af, S, Q, R, aV, bD⟩ H bE aW aX; subst hq; refine sr (ov S rfl (Zi S rfl rfl Zba) fun f S => oe (Zf fun _ aY => ?_)); rcases Zv (decide (e < (((Zj 18446744073709551616 h)).length : Int))) with T | T
    · have H := Zw H T; refine ZE S rfl T (wp_skip (Zc (aY _ _ (Zf fun _ aZ => wp_block (Zf fun _ a0 => ?_))))); obtain ⟨au, aj, H⟩ := Zb H; refine Zm (mv S rfl fun f S => ?_); have q := Zp af q; obtain ⟨_, a1, a2, bF, rfl, a3, a4⟩ := Zha q (Zh aj).2.1; obtain ⟨rfl, a5⟩ := a4; refine ov S rfl (ZO S rfl rfl ZX (Zh aj).1 (ltI (Zu q) (Zh aj).2.2.1)) fun f S => ov S rfl (ZU S rfl Zza (S.view a3)) fun f S => mw S rfl fun f S => mw S rfl fun f S => Zl (Zc (a0 _ _ (sr (mw S rfl fun f S => oe (Zf fun _ a6 => sr (mv S rfl fun f S => mv S rfl fun f S => ?_)))))); have N := Zp af N; refine ov S rfl (ZF S (Zu N) rfl rfl ZX) fun f S => ov S rfl (Zi S rfl rfl Zba) fun f S => oe ?_; obtain ⟨a7, a8, a9⟩ := Zb H; refine ZQ (fun f w => ∃ (U : Int) (V : Zd), U = a7 ∧ Zd.le P V ∧ St 56 p g [(1, .slice I J L), (5, .slice (mkA D) (m) s), (6, .int .u64 (C)), (7, .int .i64 (e)), (8, .int .u64 (au)), (9, .int .u64 (U)), (23, .slice (some ⟨a1, a2, none⟩) F G), (24, .int .i64 ((((Zj 18446744073709551616 h)).length : Int))), (25, .int .i64 (e))] [Loc.own D 211 1 (m) s k] V f w ∧ inR .u64 U) (fun _ av => ?_) ?_
      · have H := a8; rcases Zv (decide (e < (((Zj 18446744073709551616 aa)).length : Int))) with W | W
        · have H := Zw H W; refine ZE S rfl W ?_; obtain ⟨bG, ak, H⟩ := Zb H; refine Zm (mv S rfl fun f S => mv S rfl fun f S => ?_); obtain ⟨_, bH, bI, bJ, rfl, ba, bb⟩ := Zha N (Zh ak).2.1; obtain ⟨rfl, bc⟩ := bb; refine ov S rfl (ZO S rfl rfl ZX (Zh ak).1 (ltI (Zu N) (Zh ak).2.2.1)) fun f S => ov S rfl (ZU S rfl Zza (S.view ba)) fun f S => mw S rfl fun f S => Zl ?_; obtain rfl := Zg H; refine Zc (av _ _ ⟨_, _, rfl, (leR _), (S.fr' rfl), bc⟩)
        have H := Zx H W; refine ZD S rfl W (wp_skip ?_); obtain rfl := Zg H; refine Zc (av _ _ ⟨_, _, rfl, (leR _), (S.fr' rfl), (by decide)⟩)
      rintro f w ⟨U, V, hq, aw, S, bd⟩; subst hq; have H := a9; have Q := ZK aw Q; refine Zc (a6 _ _ ?_); obtain ⟨t, al, H⟩ := Zb H; obtain ⟨bK, E, H⟩ := Zb H; refine Zm (mv S rfl fun f S => mv S rfl fun f S => mv S rfl fun f S => mv S rfl fun f S => mv S rfl fun f S => ov S rfl (Zef S [.int .u64 (au), .int .u64 (U), .int .u64 (C)] (ZAg ZTg al) rfl rfl) fun f S => mv S rfl fun f S => ov S rfl (ZJ S rfl rfl) fun f S => ov S rfl (ZJ S rfl rfl) fun f S => ?_); obtain ⟨be, rfl⟩ := Zjb S (j := 0) rfl (Zmb R (Zh E).2.2.2); have ax := Zra Q (Zh E).2.1; obtain ⟨bL, bf⟩ : ∃ c, (List.take (Za .u64).n (List.drop ((e).toNat * (Za .u64).n) k)) = c := ⟨_, rfl⟩; rw [bf] at ax; obtain ⟨rfl, bM⟩ := ax; refine ov S rfl (ZO S rfl rfl ZX (Zh E).1 (ltI R (Zh E).2.2.1)) fun f S => ?_; obtain ⟨w, bg, S⟩ := ZDb S Zza (off := 0 + (e).toNat * 1) (z := .int .u64 (t.1)) (cs := [.int .u64 (t.1)]) (Zpb rfl) rfl (i := 0) rfl (Zzb S (j := 0) rfl (ltN R (Zh E).2.2.2)) (by first | rfl | simp [ZLa]); have bh : Rep.rels (Za .u64) V (List.take (0 + (e).toNat * 1) k ++ [Value.int IntKind.u64 (t.1)] ++ List.drop (0 + (e).toNat * 1 + 1) k) (B.set (e).toNat t.1) := Zyb Q (Zh E).2.2.2 (show Rep.rel (Za .u64) V [.int .u64 (t.1)] _ from (Zr (ZIi al))) rfl rfl
      have bi : m = (B.set (e).toNat t.1).length := Ztb R; refine ZZ wn rfl (bg rfl rfl) (mw S rfl fun f S => Zl (Zoa (Zc (aZ _ _ ?_)))); obtain ⟨bN, ay, H⟩ := Zb H; refine Zm (ov S rfl (Zi S rfl rfl (Zaa ay)) fun f S => mv S rfl fun f S => Zl ?_); obtain rfl := Zg H; refine aW _ rfl _ _ ⟨_, _, _, some be, m, s, (List.take (0 + (e).toNat * 1) k ++ [Value.int IntKind.u64 (t.1)] ++ List.drop (0 + (e).toNat * 1 + 1) k), _, rfl, (leT af aw), (S.fr' rfl), bh, bi, (addW_hi a5 bd al), (Z5 ay).2⟩
    have H := Zx H T; refine ZD S rfl T (wp_exit (ZP ?_)); obtain rfl := Zg H; have hq := aX _ rfl; subst hq; have H := aT; refine ZP (Zna ?_); obtain rfl := Zg H; refine Zc (aR _ _ ⟨_, _, D, m, s, k, _, rfl, (leT (leR _) af), (S.fr' rfl), Q, R, aV⟩)
  rintro f w ⟨r, d, ad, O, ae, u, v, hq, bO, S, az, aA, bj⟩; subst hq; have H := aQ; refine Zc (aN _ _ (Zf fun _ bk => sr (mv S rfl fun f S => ov S rfl (Zi S rfl rfl ZEa) fun f S => oe ?_))); obtain ⟨bm, bn, bo⟩ := Zb H; refine ZQ (fun f w => ∃ (X : (List Int)) (ag : Option Nat) (Y : Nat) (ah : Nat) (am : List Value) (ai : Zd), X = bm ∧ Zd.le v ai ∧ St 56 p g [(5, .slice (mkA ag) (Y) ah)] [Loc.own ag 211 1 (Y) ah am] ai f w ∧ Rep.rels (Za .u64) ai am X ∧ Y = X.length) (fun _ aB => ?_) ?_
  · have H := bn; rcases Zv (decide ((0 : Int) < d)) with Z | Z
    · have H := Zw H Z; refine ZE S rfl Z ?_; obtain ⟨bP, bp, H⟩ := Zb H; refine Zm (mv S rfl fun f S => mv S rfl fun f S => ?_); obtain ⟨bQ, w, bq, S⟩ := Z7a S (n := 1) (cs := [.int .u64 (d)]) (vals := [(0, .int .u64 (d))]) (sz := 1) rfl (by decide) (Z4b ZIc (x := .int .u64 (d)) (cs := [.int .u64 (d)]) rfl rfl (by decide)); have an : Rep.rels (Za .u64) v [.int .u64 (d)] [d] := (Z2a (Zr bj) ZUa); refine Zua wn rfl zl (bq rfl) S fun f S => ?_; have br := S; obtain ⟨aC, aD, w, bs, S⟩ := ZRc (ty := 30) ZIc S (i := 1) (n' := (r ++ [d]).length) rfl (Z1b an rfl) (Z4c S (j := 0) rfl) (ZQc an) (ZCc aA rfl) (ZKc bp) (by decide); have bt := ZQb az an; refine Zua wn rfl zl (Zxc br rfl rfl bs) S fun f S => mw S rfl fun f S => Zl ?_; obtain rfl := Zg H; have S := S.reorder (ℓ' := [Loc.own aC 211 1 ((r ++ [d]).length) aD ((u ++ [.int .u64 (d)]))]) [1] rfl (by decide); refine Zc (aB _ _ ⟨_, aC, (r ++ [d]).length, aD, (u ++ [.int .u64 (d)]), _, rfl, (leR _), (S.fr' rfl), bt, rfl⟩)
    have H := Zx H Z; refine ZD S rfl Z (wp_skip ?_); obtain rfl := Zg H; refine Zc (aB _ _ ⟨_, ad, O, ae, u, _, rfl, (leR _), (S.fr' rfl), az, aA⟩)
  rintro f w ⟨X, ag, Y, ah, am, ai, hq, bR, S, bu, bv⟩; subst hq; have H := bo; refine Zc (bk _ _ (sr (mv S rfl fun f S => mw S rfl fun f S => oe (wp_ret ?_)))); obtain ⟨bS, bw, H⟩ := Zb H; obtain ⟨bT, bU, S, bx⟩ := S.pubSlice (i := 0) (A := (Za .u64)) (l := X) (ℓ' := []) rfl rfl bv bu rfl; have bz := clo_rel bx bw; obtain rfl := Zg H; refine Zz S (ZN rfl (ZG S rfl)) ⟨[.slice (mkA ag) (Y) ah], rfl, bz⟩
theorem Zxl {d : World} {c : Zd} (hv : VIn c d) {e : List Value} {a : Nat} (h : Rep.rel ZC c e a) {f : List Value} {b : Nat} (i : Rep.rel ZC c f b) {z : Nat} (hm : Zbf a b = some z) :
    Ret Tryz.prog 150 #[ZC.val e, ZC.val f] d c (fun y v' => ∃ g, y = ZC.val g ∧ ZC.rel v' g z) :=
  plus_w hv h i (Z7m hm)
theorem whole_w {p : World} {g : Zd} (hv : VIn g p) {q : List Value} {s : Bool} (A : Rep.rel Z6 g q s) {r : List Value} {n : Nat} (m : Rep.rel ZC g r n) {z : Int} (H : ZZh s n = some z) : Ret Tryz.prog 104 #[Z6.val q, ZC.val r] p g (fun y v' => ∃ u, y = Zca.val u ∧ Zca.rel v' u z) := by
  obtain rfl := A; obtain ⟨a, c, d, rfl⟩ := Z8 m; refine ZV (K := 13) (args := [.bool (s), .slice a c d]) hv Tryz.func104 rfl rfl zl fun f S => ?_; unfold ZZh at H; refine sr (Z0 S wn rfl zl (cs := [.bool false, .slice none 0 0]) (ZW Z5c) fun v f w S => oe (Zf fun _ B => ?_)); obtain ⟨C, D, E⟩ := Zb H; refine ZQ (fun f w => ∃ (e : (Bool × Nat)) (h : Option Addr) (j : Nat) (k : Nat) (o : Zd), e = C ∧ Zd.le g o ∧ St 13 p g [(4, .pointer (some ⟨v, 0, none⟩))] [Loc.box v 32 [.bool (e.1), .slice h j k]] o f w ∧ Rep.rel ZC o [.slice h j k] e.2) (fun _ x => ?_) ?_
  · have H := D; rcases Zv (s) with l | l
    · have H := Zw H l; refine Zm (mv S rfl fun f S => ?_); have S := S.bool (t := 5) rfl l; refine mv S rfl fun f S => opy S rfl rfl rfl rfl (Zo S rfl) fun f S => opy S rfl rfl rfl rfl (ZF S (Zu m) rfl rfl ZX) fun f S => opy S rfl rfl rfl rfl (Zi S rfl rfl ZEa) fun f S => ov S rfl (ZB S (b := true) rfl rfl) fun f S => mv S rfl fun f S => ov S rfl (ZNa S [(0, .bool (decide ((0 : Int) < (((Zj 18446744073709551616 n)).length : Int)))), (1, .slice a c d)] rfl (z := .agg #[.bool (decide ((0 : Int) < (((Zj 18446744073709551616 n)).length : Int))), .slice a c d]) (by kernel_rfl)) fun f S => ?_; obtain ⟨w, F, S⟩ := sbp S [.bool (decide ((0 : Int) < (((Zj 18446744073709551616 n)).length : Int))), .slice a c d] ZIa 0 0 rfl; refine ZZ wn rfl (F rfl rfl) (Zl ?_); obtain rfl := Zg H; refine Zc (x _ _ ⟨_, _, _, _, _, rfl, (leR _), (S.fr' rfl), m⟩)
    have H := Zx H l; refine Zm (mv S rfl fun f S => ?_); have S := S.bool (t := 5) rfl l; refine mv S rfl fun f S => opn S rfl rfl rfl rfl fun f S => opn S rfl rfl rfl rfl fun f S => opn S rfl rfl rfl rfl fun f S => ov S rfl (ZB S (b := false) rfl rfl) fun f S => mv S rfl fun f S => ov S rfl (ZNa S [(0, .bool (false)), (1, .slice a c d)] rfl (z := .agg #[.bool (false), .slice a c d]) (by kernel_rfl)) fun f S => ?_; obtain ⟨w, G, S⟩ := sbp S [.bool (false), .slice a c d] ZIa 0 0 rfl; refine ZZ wn rfl (G rfl rfl) (Zl ?_); obtain rfl := Zg H; refine Zc (x _ _ ⟨_, _, _, _, _, rfl, (leR _), (S.fr' rfl), m⟩)
  rintro f w ⟨e, h, j, k, o, hq, M, S, I⟩; subst hq; have H := E; refine Zc (B _ _ (wp_ret ?_)); obtain ⟨N, J, H⟩ := Zb H; have L := Z7i (s := e.1) I J; obtain rfl := Zg H; refine Zz S (ZN rfl (Ztc S rfl ZIa rfl (S.box (i := 0) rfl 0 [.bool (e.1), .slice h j k] rfl))) ⟨[.bool (e.1), .slice h j k], rfl, L⟩
theorem ZCd {b : World} {a : Zd} (hv : VIn a b) {c : List Value} {s : Bool} (f : Rep.rel Z6 a c s) {d : List Value} {n : Nat} (g : Rep.rel ZC a d n) {z : Int} (hm : Zwb s n = some z) :
    Ret Tryz.prog 104 #[Z6.val c, ZC.val d] b a (fun y v' => ∃ e, y = Zca.val e ∧ Zca.rel v' e z) :=
  whole_w hv f g (ZZp hm)
theorem iplus_w {E : World} {m : Zd} (hv : VIn m E) {G : List Value} {x : Int} (I : Rep.rel Zca m G x) {J : List Value} {y : Int} (L : Rep.rel Zca m J y) {z : Int} (H : Zyh x y = some z) : Ret Tryz.prog 105 #[Zca.val G, Zca.val J] E m (fun y v' => ∃ M, y = Zca.val M ∧ Zca.rel v' M z) := by
  obtain ⟨N, c, d, e, rfl⟩ := ZVa I; obtain ⟨P, g, h, j, rfl⟩ := ZVa L; refine ZV (K := 40) (args := [.agg #[.bool N, .slice c d e], .agg #[.bool P, .slice g h j]]) hv Tryz.func105 rfl rfl zl fun f S => ?_; unfold Zyh at H; refine sr (ob S rfl (cs := [.bool N, .slice c d e]) rfl fun aA f w S => ob S rfl (cs := [.bool P, .slice g h j]) rfl fun aB f w S => Z0 S wn rfl zl (cs := [.bool false, .slice none 0 0]) (ZW Z5c) fun aC f w S => oe (Zf fun _ X => sr (ov S rfl (Zy S rfl Znb) fun f S => ?_))); obtain ⟨rfl, a⟩ := Zdc I; refine ov S rfl (lo S rfl Zla 2 rfl rfl) fun f S => ov S rfl (Zy S rfl Znb) fun f S => ?_; obtain ⟨rfl, b⟩ := Zdc L; refine ov S rfl (lo S rfl Zla 1 rfl rfl) fun f S => ov S rfl (Zbc S rfl rfl (ZBm _ _)) fun f S => oe ?_; rcases Zv ((decide (x < 0)) == (decide (y < 0))) with k | k
  · have H := Zw H k; refine ZE S rfl k (Zf fun _ Y => ?_); obtain ⟨aD, Z, H⟩ := Zb H; obtain ⟨aE, aa, H⟩ := Zb H; refine Zia (fl := #[true, true, true, true, true, true, false, false, false]) Zja (by kernel_rfl) S ?_; intro ops O F w S; refine rfa O F 0 rfl rfl S (Zy S rfl Znb) fun f S => rfa O F 1 rfl rfl S (lo S rfl Zla 2 rfl rfl) fun f S => rfa O F 2 rfl rfl S (Zy S rfl Zdb) fun f S => rfa O F 3 rfl rfl S (lo S rfl Zya 2 rfl rfl) fun f S => rfa O F 4 rfl rfl S (Zy S rfl Zdb) fun f S => rfa O F 5 rfl rfl S (lo S rfl Zya 1 rfl rfl) fun f S => go1 O F 6 (nxc [3, 5, 2, 4] [0, 1] O rfl S rfl (Zn S [.slice c d e, .slice g h j] Zsm rfl rfl) (Zxl S.vin a b Z) ?_); rintro _ aF f w aG ⟨aH, rfl, Q⟩ S; obtain ⟨ab, ac, ad, rfl⟩ := Z8 Q; refine ⟨(py S rfl rfl (Zy S rfl Znb) (py S rfl rfl (lo S rfl Zla 2 rfl rfl) Zq)), go1 O F 7 (nxc [1, 6, 0, 3, 5, 2, 4] [] O rfl S rfl (Zn S [.bool (decide (x < 0)), .slice ab ac ad] ZJd rfl rfl) (ZCd S.vin (show Rep.rel Z6 _ [.bool (decide (x < 0))] (decide (x < 0)) from ZFa) Q aa) ?_)⟩; rintro _ aI f w aJ ⟨aK, rfl, R⟩ S; obtain ⟨o, p, q, r, rfl⟩ := ZVa R; refine ⟨Zq, go1 O F 8 ?_⟩; obtain ⟨w, ae, S⟩ := sbp S [.bool o, .slice p q r] ZIa 0 0 rfl; refine nxs [0, 1, 2, 3, 4, 5, 6, 7] [] O rfl rfl (ae rfl rfl) (⟨Zq, Z3 O F (Zc (Y _ _ (wp_ret (ZR ?_))))⟩)
    obtain rfl := Zg H; refine Zz S (ZN rfl (Ztc S rfl ZIa rfl (S.box (i := 0) rfl 0 [.bool o, .slice p q r] rfl))) ⟨[.bool o, .slice p q r], rfl, R⟩
  have H := Zx H k; refine ZD S rfl k (wp_skip (Zc (X _ _ (Zf fun _ af => Zf fun _ ag => ?_)))); obtain ⟨ah, ai, H⟩ := Zb H; refine Zm (ov S rfl (Zy S rfl Zdb) fun f S => ov S rfl (lo S rfl Zya 2 rfl rfl) fun f S => ov S rfl (Zy S rfl Zdb) fun f S => ov S rfl (lo S rfl Zya 1 rfl rfl) fun f S => opc S rfl (Zn S [.slice c d e, .slice g h j] Z6j rfl rfl) (cmp_c S.vin a b ai) ?_); rintro _ aL f w n ⟨aM, rfl, aj⟩ S; obtain ⟨rfl, aN⟩ := aj; refine ov S rfl (Zi S rfl rfl Zrb) fun f S => Zl (Zc (ag _ _ ?_)); rcases Zv (decide ((0 : Int) ≤ ah)) with l | l
  · have H := Zw H l; refine ZE S rfl l (Zf fun _ ak => ?_); obtain ⟨aO, al, H⟩ := Zb H; obtain ⟨aP, am, H⟩ := Zb H; refine Zia (fl := #[true, true, true, true, true, true, false, false, false]) Zja (by kernel_rfl) S ?_; intro ops O F w S; refine rfa O F 0 rfl rfl S (Zy S rfl Znb) fun f S => rfa O F 1 rfl rfl S (lo S rfl Zla 2 rfl rfl) fun f S => rfa O F 2 rfl rfl S (Zy S rfl Zdb) fun f S => rfa O F 3 rfl rfl S (lo S rfl Zya 2 rfl rfl) fun f S => rfa O F 4 rfl rfl S (Zy S rfl Zdb) fun f S => rfa O F 5 rfl rfl S (lo S rfl Zya 1 rfl rfl) fun f S => go1 O F 6 ?_; have a := Zp n a; have b := Zp n b; refine nxc [3, 5, 2, 4] [0, 1] O rfl S rfl (Zn S [.slice c d e, .slice g h j] ZVl rfl rfl) (ZIl S.vin a b al) ?_; rintro _ aQ f w aR ⟨aS, rfl, T⟩ S; obtain ⟨an, ao, ap, rfl⟩ := Z8 T; refine ⟨(py S rfl rfl (Zy S rfl Znb) (py S rfl rfl (lo S rfl Zla 2 rfl rfl) Zq)), go1 O F 7 (nxc [1, 6, 0, 3, 5, 2, 4] [] O rfl S rfl (Zn S [.bool (decide (x < 0)), .slice an ao ap] ZJd rfl rfl) (ZCd S.vin (show Rep.rel Z6 _ [.bool (decide (x < 0))] (decide (x < 0)) from ZFa) T am) ?_)⟩; rintro _ aT f w aU ⟨aV, rfl, U⟩ S; obtain ⟨s, t, u, v, rfl⟩ := ZVa U; refine ⟨Zq, go1 O F 8 ?_⟩; obtain ⟨w, aq, S⟩ := sbp S [.bool s, .slice t u v] ZIa 0 0 rfl
    refine nxs [0, 1, 2, 3, 4, 5, 6, 7] [] O rfl rfl (aq rfl rfl) (⟨Zq, Z3 O F (Zc (ak _ _ (wp_ret (ZR ?_))))⟩); obtain rfl := Zg H; refine Zz S (ZN rfl (Ztc S rfl ZIa rfl (S.box (i := 0) rfl 0 [.bool s, .slice t u v] rfl))) ⟨[.bool s, .slice t u v], rfl, U⟩
  have H := Zx H l; refine ZD S rfl l (wp_skip (Zc (af _ _ (Zf fun _ ar => ?_)))); obtain ⟨aW, au, H⟩ := Zb H; obtain ⟨aX, av, H⟩ := Zb H; refine Zia (fl := #[true, true, true, true, true, true, false, false, false]) Zja (by kernel_rfl) S ?_; intro ops O F w S; refine rfa O F 0 rfl rfl S (Zy S rfl Znb) fun f S => rfa O F 1 rfl rfl S (lo S rfl Zla 1 rfl rfl) fun f S => rfa O F 2 rfl rfl S (Zy S rfl Zdb) fun f S => rfa O F 3 rfl rfl S (lo S rfl Zya 1 rfl rfl) fun f S => rfa O F 4 rfl rfl S (Zy S rfl Zdb) fun f S => rfa O F 5 rfl rfl S (lo S rfl Zya 2 rfl rfl) fun f S => go1 O F 6 ?_; have b := Zp n b; have a := Zp n a; refine nxc [3, 5, 2, 4] [0, 1] O rfl S rfl (Zn S [.slice g h j, .slice c d e] ZVl rfl rfl) (ZIl S.vin b a au) ?_; rintro _ aY f w aZ ⟨a0, rfl, V⟩ S; obtain ⟨aw, ax, ay, rfl⟩ := Z8 V; refine ⟨(py S rfl rfl (Zy S rfl Znb) (py S rfl rfl (lo S rfl Zla 1 rfl rfl) Zq)), go1 O F 7 (nxc [1, 6, 0, 3, 5, 2, 4] [] O rfl S rfl (Zn S [.bool (decide (y < 0)), .slice aw ax ay] ZJd rfl rfl) (ZCd S.vin (show Rep.rel Z6 _ [.bool (decide (y < 0))] (decide (y < 0)) from ZFa) V av) ?_)⟩; rintro _ a1 f w a2 ⟨a3, rfl, W⟩ S; obtain ⟨A, B, C, D, rfl⟩ := ZVa W; refine ⟨Zq, go1 O F 8 ?_⟩; obtain ⟨w, az, S⟩ := sbp S [.bool A, .slice B C D] ZIa 0 0 rfl
  refine nxs [0, 1, 2, 3, 4, 5, 6, 7] [] O rfl rfl (az rfl rfl) (⟨Zq, Z3 O F (Zc (ar _ _ (wp_ret ?_)))⟩); obtain rfl := Zg H; refine Zz S (ZN rfl (Ztc S rfl ZIa rfl (S.box (i := 0) rfl 0 [.bool A, .slice B C D] rfl))) ⟨[.bool A, .slice B C D], rfl, W⟩
theorem iplus_c {b : World} {a : Zd} (hv : VIn a b) {c : List Value} {x : Int} (f : Rep.rel Zca a c x) {d : List Value} {y : Int} (g : Rep.rel Zca a d y) {z : Int} (hm : Z6g x y = some z) :
    Ret Tryz.prog 105 #[Zca.val c, Zca.val d] b a (fun y v' => ∃ e, y = Zca.val e ∧ Zca.rel v' e z) :=
  iplus_w hv f g (Zbo hm)
theorem isOne_w {h : World} {c : Zd} (hv : VIn c h) {k : List Value} {a : (List Int)} (d : Rep.rel (Zt (Za .u64)) c k a) {z : Bool} (H : Zhh a = some z) : Ret Tryz.prog 145 #[(Zt (Za .u64)).val k] h c (fun y v' => ∃ l, y = Z6.val l ∧ Z6.rel v' l z) := by
  obtain ⟨n, o, p, rfl⟩ := Zta d; refine ZV (K := 12) (args := [.slice n (o) p]) hv Tryz.func145 rfl rfl zl fun f S => ?_; unfold Zhh at H; refine sr (mw S rfl fun f S => oe (Zf fun _ q => ?_)); obtain ⟨r, s, u⟩ := Zb H; refine ZQ (fun f w => ∃ (g : Bool) (i : Zd), g = r ∧ Zd.le c i ∧ St 12 h c [(2, .bool (g))] [] i f w) (fun _ m => ?_) ?_
  · have H := s; rcases Zv (((a.length : Int)) == ((1 : Int))) with e | e
    · have H := Zw H e; obtain ⟨A, j, H⟩ := Zb H; refine Zm (mv S rfl fun f S => ov S rfl (ZF S (Zu d) rfl rfl ZX) fun f S => ov S rfl (Zi S rfl rfl Z1) fun f S => ?_); have S := S.bool (t := 5) rfl e; refine mv S rfl fun f S => opy S rfl rfl rfl rfl (Zo S rfl) fun f S => ?_; obtain ⟨_, B, C, D, rfl, v, x⟩ := Zha d (Zh j).2.1; obtain ⟨rfl, E⟩ := x; refine opy S rfl rfl rfl rfl (ZO S rfl rfl ZX (Zh j).1 (ltI (Zu d) (Zh j).2.2.1)) fun f S => opy S rfl rfl rfl rfl (ZU S rfl Zza (S.view v)) fun f S => opy S rfl rfl rfl rfl (Zi S rfl rfl Z1) fun f S => ov S rfl (ZB S (b := true) rfl rfl) fun f S => mw S rfl fun f S => Zl ?_; obtain rfl := Zg H; refine Zc (m _ _ ⟨_, _, rfl, (leR _), (S.fr' rfl)⟩)
    have H := Zx H e; refine Zm (mv S rfl fun f S => ov S rfl (ZF S (Zu d) rfl rfl ZX) fun f S => ov S rfl (Zi S rfl rfl Z1) fun f S => ?_); have S := S.bool (t := 5) rfl e; refine mv S rfl fun f S => opn S rfl rfl rfl rfl fun f S => opn S rfl rfl rfl rfl fun f S => opn S rfl rfl rfl rfl fun f S => opn S rfl rfl rfl rfl fun f S => ov S rfl (ZB S (b := false) rfl rfl) fun f S => mw S rfl fun f S => Zl ?_; obtain rfl := Zg H; refine Zc (m _ _ ⟨_, _, rfl, (leR _), (S.fr' rfl)⟩)
  rintro f w ⟨g, i, hq, F, S⟩; subst hq; have H := u; refine Zc (q _ _ (wp_ret ?_)); obtain rfl := Zg H; refine Zz S (ZN rfl (ZG S rfl)) ⟨[.bool (g)], rfl, ZFa⟩
theorem Z6h {c : World} {b : Zd} (hv : VIn b c) {d : List Value} {a : Nat} (f : Rep.rel ZC b d a) {z : Bool} (hm : Z0e a = some z) :
    Ret Tryz.prog 145 #[ZC.val d] c b (fun y v' => ∃ e, y = Z6.val e ∧ Z6.rel v' e z) :=
  isOne_w hv f (Z0m.trans hm)
theorem mul64_w {e : World} {a : Zd} (hv : VIn a e) {g : List Value} {x : Int} (l : Rep.rel (Za .u64) a g x) {h : List Value} {y : Int} (m : Rep.rel (Za .u64) a h y) {z : Int × Int} (H : Z3f x y = some z) : Ret Tryz.prog 147 #[(Za .u64).val g, (Za .u64).val h] e a (fun y v' => ∃ i c, y = .tuple #[(Za .u64).val i, (Za .u64).val c] ∧ (Za .u64).rel v' i z.1 ∧ (Za .u64).rel v' c z.2) := by
  obtain ⟨rfl, c⟩ := l; obtain ⟨rfl, B⟩ := m; refine ZV (K := 51) (args := [.int .u64 (x), .int .u64 (y)]) hv Tryz.func147 rfl rfl zl fun f S => ?_; unfold Z3f at H; refine sr (mw S rfl fun f S => mw S rfl fun f S => oe (sr (mv S rfl fun f S => ov S rfl (Zi S rfl rfl Zlf) fun f S => mw S rfl fun f S => oe (Zf fun _ n => ?_)))); obtain ⟨b, o, H⟩ := Zb H; refine Zm (mv S rfl fun f S => ov S rfl (Zi S rfl rfl (ZNb o)) fun f S => mw S rfl fun f S => Zl (Zc (n _ _ (sr (mv S rfl fun f S => ov S rfl (Zi S rfl rfl Zlf) fun f S => mw S rfl fun f S => oe (Zf fun _ p => ?_)))))); obtain ⟨d, q, H⟩ := Zb H; refine Zm (mv S rfl fun f S => ov S rfl (Zi S rfl rfl (ZNb q)) fun f S => mw S rfl fun f S => Zl (Zc (p _ _ (sr (mv S rfl fun f S => mv S rfl fun f S => ov S rfl (Zi S rfl rfl Z8b) fun f S => mw S rfl fun f S => oe (Zf fun _ r => ?_)))))); obtain ⟨s, t, H⟩ := Zb H; refine Zm (mv S rfl fun f S => mv S rfl fun f S => ov S rfl (Zi S rfl rfl Z8b) fun f S => mv S rfl fun f S => ov S rfl (Zi S rfl rfl (ZNb t)) fun f S => ov S rfl (Zi S rfl rfl ZPb) fun f S => mw S rfl fun f S => Zl ?_); have S := S.fr' (σ' := [(0, .int .u64 (x)), (1, .int .u64 (y)), (6, .int .u64 (ZQa .u64 x ((4294967295 : Int)))), (7, .int .u64 (b)), (9, .int .u64 (d)), (11, .int .u64 (IntKind.u64.wrap ((IntKind.u64.wrap (b * (ZQa .u64 y ((4294967295 : Int))))) + s)))]) rfl
  refine Zc (r _ _ (sr (mv S rfl fun f S => ov S rfl (Zi S rfl rfl Zlf) fun f S => mw S rfl fun f S => oe (Zf fun _ u => ?_)))); obtain ⟨j, v, H⟩ := Zb H; refine Zm (mv S rfl fun f S => ov S rfl (Zi S rfl rfl (ZNb v)) fun f S => mw S rfl fun f S => Zl (Zc (u _ _ (sr (mv S rfl fun f S => mv S rfl fun f S => mv S rfl fun f S => ov S rfl (Zi S rfl rfl Z8b) fun f S => ov S rfl (Zi S rfl rfl ZPb) fun f S => mw S rfl fun f S => oe ?_))))); refine Zf fun _ w => ?_; obtain ⟨k, A, H⟩ := Zb H; refine Zm (mv S rfl fun f S => mv S rfl fun f S => ov S rfl (Zi S rfl rfl Z8b) fun f S => mv S rfl fun f S => ov S rfl (Zi S rfl rfl ZPb) fun f S => mv S rfl fun f S => ov S rfl (Zi S rfl rfl (ZNb A)) fun f S => ov S rfl (Zi S rfl rfl ZPb) fun f S => mw S rfl fun f S => Zl (Zc (w _ _ (sr (mv S rfl fun f S => ?_))))); refine mv S rfl fun f S => ov S rfl (Zi S rfl rfl Z8b) fun f S => mw S rfl fun f S => ?_; have S := S.fr' (σ' := [(4, .int .u64 (IntKind.u64.wrap ((IntKind.u64.wrap ((IntKind.u64.wrap (b * d)) + j)) + k))), (5, .int .u64 (IntKind.u64.wrap (x * y)))]) rfl; refine oe (wp_ret ?_); obtain rfl := Zg H; refine Zz S (ZAa rfl (ZG S rfl) (ZG S rfl)) ⟨[.int .u64 (IntKind.u64.wrap ((IntKind.u64.wrap ((IntKind.u64.wrap (b * d)) + j)) + k))], [.int .u64 (IntKind.u64.wrap (x * y))], rfl, (Zr (Zxa _ _)), (Zr (Zxa _ _))⟩
theorem ZDj {b : World} {a : Zd} (hv : VIn a b) {c : List Value} {x : Int} (g : Rep.rel (Za .u64) a c x) {d : List Value} {y : Int} (h : Rep.rel (Za .u64) a d y) {z : Int × Int} (hm : ZDd x y = some z) :
    Ret Tryz.prog 147 #[(Za .u64).val c, (Za .u64).val d] b a (fun y v' => ∃ e f, y = Value.tuple #[(Za .u64).val e, (Za .u64).val f] ∧ (Za .u64).rel v' e z.1 ∧ (Za .u64).rel v' f z.2) :=
  mul64_w hv g h (ZZm hm)
theorem times_w {G : World} {q : Zd} (hv : VIn q G) {c0 : List Value} {a : Nat} (e : Rep.rel ZC q c0 a) {c1 : List Value} {b : Nat} (d : Rep.rel ZC q c1 b) {z : Nat} (H : Zxg a b = some z) : Ret Tryz.prog 102 #[ZC.val c0, ZC.val c1] G q (fun y v' => ∃ r0, y = ZC.val r0 ∧ ZC.rel v' r0 z) := by
  obtain ⟨q1, r, s, rfl⟩ := Z8 e; obtain ⟨C, h, k, rfl⟩ := Z8 d; refine ZV (K := 86) (args := [.slice q1 r s, .slice C h k]) hv Tryz.func102 rfl rfl zl fun f S => ?_; unfold Zxg at H; refine sr (mw S rfl fun f S => oe (Zf fun _ aZ => Zf fun _ a0 => ?_)); obtain ⟨a1, a2, H⟩ := Zb H; refine Zm (mv S rfl fun f S => opc S rfl (Zn S [.slice q1 r s] Zli rfl rfl) (Z6h S.vin e a2) ?_); rintro _ ch f w ai ⟨ci, rfl, a3⟩ S; obtain rfl := a3; refine Zl (Zc (a0 _ _ ?_)); rcases Zv (a1) with X | X
  · have H := Zw H X; refine ZE S rfl X (sr (mv S rfl fun f S => mw S rfl fun f S => oe (wp_ret (ZR ?_)))); obtain rfl := Zg H; have d := Zp ai d; refine Zz S (ZN rfl (ZG S rfl)) ⟨[.slice C h k], rfl, d⟩
  have H := Zx H X; refine ZD S rfl X (wp_skip (Zc (aZ _ _ (Zf fun _ a4 => Zf fun _ a5 => ?_)))); obtain ⟨a6, a7, H⟩ := Zb H; refine Zm (mv S rfl fun f S => ?_); have d := Zp ai d; refine opc S rfl (Zn S [.slice C h k] Zli rfl rfl) (Z6h S.vin d a7) ?_; rintro _ ay f w az ⟨cj, rfl, a8⟩ S; obtain rfl := a8; refine Zl (Zc (a5 _ _ ?_)); rcases Zv (a6) with Y | Y
  · have H := Zw H Y; refine ZE S rfl Y (sr (mv S rfl fun f S => mw S rfl fun f S => oe (wp_ret (ZR ?_)))); obtain rfl := Zg H; have e := Zp (leT ai az) e; refine Zz S (ZN rfl (ZG S rfl)) ⟨[.slice q1 r s], rfl, e⟩
  have H := Zx H Y; refine ZD S rfl Y (wp_skip (Zc (a4 _ _ (Zf fun _ a9 => ?_)))); obtain ⟨I, ba, H⟩ := Zb H; obtain ⟨ck, aj, H⟩ := Zb H; refine Zm (mv S rfl fun f S => ?_); have e := Zp (leT ai az) e; refine ov S rfl (ZF S (Zu e) rfl rfl ZX) fun f S => mv S rfl fun f S => ?_; have d := Zp az d; refine ov S rfl (ZF S (Zu d) rfl rfl ZX) fun f S => ov S rfl (Zi S rfl rfl (Zaa ba)) fun f S => ?_; obtain ⟨aI, aJ⟩ : ∃ c : List Value, c = (List.replicate (I).toNat [.int .u64 ((0 : Int))]).flatten := ⟨_, rfl⟩; obtain ⟨bb, w, bc, S⟩ := Zib ZIc S (l := I) (c := I) (ZY aj).1 (ZY aj).2.1 (ZY aj).2.2.1 (ZY aj).2.2.2 aJ; have bd : Rep.rels (Za .u64) ay aI (List.replicate (I).toNat ((0 : Int))) := by rw [aJ]; exact Zbb (show Rep.rel (Za .u64) _ [.int .u64 ((0 : Int))] _ from (Zr (by decide))) _
  refine Zua wn rfl zl (bc rfl rfl) S fun f S => mw S rfl fun f S => Zl (Zc (a9 _ _ (Zf fun _ be => sr (mv S rfl fun f S => ov S rfl (ZF S (Zu e) rfl rfl ZX) fun f S => mv S rfl fun f S => oe ?_)))); obtain ⟨bf, bg, bh⟩ := Zb H; refine ZQ (fun f w => ∃ (J : (List Int)) (Z : Option Nat) (L : Nat) (aa : Nat) (aA : List Value) (ak : Zd), J = bf ∧ Zd.le ay ak ∧ St 86 G q [(5, .slice (mkA Z) (L) aa)] [Loc.own Z 211 1 (L) aa aA] ak f w ∧ Rep.rels (Za .u64) ak aA J ∧ L = J.length) (fun _ bi => ?_) ?_
  · have H := bg; refine wp_block ?_; obtain ⟨cl, bj, bk⟩ := Zb H; refine Zqa bj (fun bm f w => ∃ (al : (List Int)) (g : Int) (ab : Option Nat) (M : Nat) (ac : Nat) (ad : List Value) (N : Zd), (al, g) = bm ∧ Zd.le ay N ∧ St 86 G q [(1, .slice C h k), (5, .slice (mkA ab) (M) ac), (26, .slice q1 r s), (27, .int .i64 ((((Zj 18446744073709551616 a)).length : Int))), (28, .int .i64 (g))] [Loc.own ab 211 1 (M) ac ad] N f w ∧ Rep.rels (Za .u64) N ad al ∧ M = al.length ∧ inR .i64 g) ⟨_, _, some bb, (I).toNat, (I).toNat, aI, _, rfl, (leR _), (S.fr' rfl), bd, (ZWa (x := (0 : Int))), (by decide)⟩ ?_; rintro _ f w st ⟨al, g, ab, M, ac, ad, N, hq, am, S, aK, aL, cm⟩ H cn bn bo; subst hq; refine sr (ov S rfl (Zi S rfl rfl Zba) fun f S => oe (Zf fun _ bp => ?_)); rcases Zv (decide (g < (((Zj 18446744073709551616 a)).length : Int))) with ae | ae
    · have H := Zw H ae; refine ZE S rfl ae (wp_skip (Zc (bp _ _ (Zf fun _ bq => wp_block (Zf fun _ br => ?_))))); obtain ⟨O, aB, H⟩ := Zb H; refine Zm (mv S rfl fun f S => ?_); have e := Zp am e; obtain ⟨_, an, ao, co, rfl, bs, bt⟩ := Zha e (Zh aB).2.1; obtain ⟨rfl, bu⟩ := bt; refine ov S rfl (ZO S rfl rfl ZX (Zh aB).1 (ltI (Zu e) (Zh aB).2.2.1)) fun f S => ov S rfl (ZU S rfl Zza (S.view bs)) fun f S => mw S rfl fun f S => mw S rfl fun f S => Zl (Zc (br _ _ (sr (mw S rfl fun f S => oe (Zf fun _ bv => sr (mv S rfl fun f S => ?_)))))); have d := Zp am d; refine ov S rfl (ZF S (Zu d) rfl rfl ZX) fun f S => mv S rfl fun f S => oe ?_; obtain ⟨bw, bx, bz⟩ := Zb H; refine ZQ (fun f w => ∃ (P : (List Int)) (m : Int) (aC : Option Nat) (Q : Nat) (ap : Nat) (t : List Value) (R : Zd), (P, m) = bw ∧ Zd.le N R ∧ St 86 G q [(1, .slice C h k), (5, .slice (mkA aC) (Q) ap), (6, .int .i64 (g)), (8, .int .u64 (m)), (26, .slice (some ⟨an, ao, none⟩) r s), (27, .int .i64 ((((Zj 18446744073709551616 a)).length : Int))), (28, .int .i64 (g))] [Loc.own aC 211 1 (Q) ap t] R f w ∧ Rep.rels (Za .u64) R t P ∧ Q = P.length ∧ inR .u64 m) (fun _ bA => ?_) ?_
      · have H := bx; refine wp_block ?_; obtain ⟨cp, bB, bC⟩ := Zb H; refine Zqa bB (fun bD f w => ∃ (T : (List Int)) (U : Int) (D : Int) (aq : Option Nat) (p : Nat) (E : Nat) (o : List Value) (ar : Zd), (T, U, D) = bD ∧ Zd.le N ar ∧ St 86 G q [(1, .slice C h k), (5, .slice (mkA aq) (p) E), (6, .int .i64 (g)), (7, .int .u64 (O)), (8, .int .u64 (U)), (26, .slice (some ⟨an, ao, none⟩) r s), (27, .int .i64 ((((Zj 18446744073709551616 a)).length : Int))), (28, .int .i64 (g)), (33, .slice C h k), (34, .int .i64 ((((Zj 18446744073709551616 b)).length : Int))), (35, .int .i64 (D))] [Loc.own aq 211 1 (p) E o] ar f w ∧ Rep.rels (Za .u64) ar o T ∧ p = T.length ∧ inR .u64 U ∧ inR .i64 D) ⟨_, _, _, ab, M, ac, ad, _, rfl, (leR _), (S.fr' rfl), aK, aL, (by decide), (by decide)⟩ ?_; rintro _ f w st ⟨T, U, D, aq, p, E, o, ar, hq, aD, S, V, F, bE, cq⟩ H cr bF bG; subst hq; refine sr (ov S rfl (Zi S rfl rfl Zba) fun f S => oe (Zf fun _ bH => ?_)); rcases Zv (decide (D < (((Zj 18446744073709551616 b)).length : Int))) with af | af
        · have H := Zw H af; refine ZE S rfl af (wp_skip (Zc (bH _ _ (Zf fun _ bI => wp_block (Zf fun _ bJ => ?_))))); obtain ⟨aE, aF, H⟩ := Zb H; refine Zm (mv S rfl fun f S => ?_); have d := Zp aD d; obtain ⟨_, au, av, ct, rfl, bK, bL⟩ := Zha d (Zh aF).2.1; obtain ⟨rfl, bM⟩ := bL; refine ov S rfl (ZO S rfl rfl ZX (Zh aF).1 (ltI (Zu d) (Zh aF).2.2.1)) fun f S => ov S rfl (ZU S rfl Zza (S.view bK)) fun f S => mw S rfl fun f S => mw S rfl fun f S => Zl (Zc (bJ _ _ (Zf fun _ bN => ?_))); obtain ⟨aG, bO, H⟩ := Zb H; refine Zm (mv S rfl fun f S => mv S rfl fun f S => opc S rfl (Zn S [.int .u64 (O), .int .u64 (aE)] Zhj rfl rfl) (ZDj S.vin (show Rep.rel (Za .u64) _ [.int .u64 (O)] O from (Zr bu)) (show Rep.rel (Za .u64) _ [.int .u64 (aE)] aE from (Zr bM)) bO) ?_); rintro _ aM f w aN ⟨cu, cv, rfl, bP, bQ⟩ S; have V := ZK aN V; obtain ⟨rfl, cw⟩ := bP; obtain ⟨rfl, cx⟩ := bQ; refine mv S rfl fun f S => ov S rfl (ZJ S rfl rfl) fun f S => ov S rfl (ZJ S rfl rfl) fun f S => mw S rfl fun f S => mw S rfl fun f S => Zl (Zc (bN _ _ (Zf fun _ bR => ?_))); obtain ⟨bS, bT, H⟩ := Zb H; obtain ⟨aO, ag, H⟩ := Zb H; obtain ⟨aw, bU, H⟩ := Zb H; refine Zm (mv S rfl fun f S => mv S rfl fun f S => mv S rfl fun f S => mv S rfl fun f S => ov S rfl (Zi S rfl rfl (Zaa bT)) fun f S => ?_)
          obtain ⟨aH, rfl⟩ := Zjb S (j := 0) rfl (Zmb F (Zh ag).2.2.2); have aP := Zra V (Zh ag).2.1; obtain ⟨cy, aQ⟩ : ∃ c, (List.take (Za .u64).n (List.drop ((bS).toNat * (Za .u64).n) o)) = c := ⟨_, rfl⟩; rw [aQ] at aP; obtain ⟨rfl, cz⟩ := aP; refine ov S rfl (ZO S rfl rfl ZX (Zh ag).1 (ltI F (Zh ag).2.2.1)) fun f S => ov S rfl (ZU S rfl Zza (Zlb S (j := 0) rfl aQ (ltN F (Zh ag).2.2.2) 0 [.int .u64 (aO)] rfl zl)) fun f S => ov S rfl (Zef S [.int .u64 (aG.2), .int .u64 (aO), .int .u64 ((0 : Int))] (ZAg ZTg bU) rfl rfl) fun f S => mv S rfl fun f S => ov S rfl (ZJ S rfl rfl) fun f S => ov S rfl (ZJ S rfl rfl) fun f S => mw S rfl fun f S => mw S rfl fun f S => Zl ?_; have S := S.fr' (σ' := [(1, .slice (some ⟨au, av, none⟩) h k), (5, .slice (mkA (some aH)) (p) E), (6, .int .i64 (g)), (7, .int .u64 (O)), (8, .int .u64 (U)), (9, .int .i64 (D)), (11, .int .u64 (aG.1)), (12, .int .u64 (aw.1)), (13, .int .u64 (aw.2)), (26, .slice (some ⟨an, ao, none⟩) r s), (27, .int .i64 ((((Zj 18446744073709551616 a)).length : Int))), (28, .int .i64 (g)), (33, .slice (some ⟨au, av, none⟩) h k), (34, .int .i64 ((((Zj 18446744073709551616 b)).length : Int))), (35, .int .i64 (D))]) rfl; refine Zc (bR _ _ (sr (mv S rfl fun f S => mv S rfl fun f S => ov S rfl (Zi S rfl rfl ZPb) fun f S => mw S rfl fun f S => oe (Zf fun _ bV => ?_))))
          obtain ⟨u, aR, H⟩ := Zb H; refine Zm (mv S rfl fun f S => mv S rfl fun f S => ov S rfl (Zef S [.int .u64 (aw.1), .int .u64 (U), .int .u64 ((0 : Int))] (ZAg ZTg aR) rfl rfl) fun f S => mv S rfl fun f S => ov S rfl (ZJ S rfl rfl) fun f S => ov S rfl (ZJ S rfl rfl) fun f S => mw S rfl fun f S => mw S rfl fun f S => Zl (Zc (bV _ _ ?_))); obtain ⟨v, bW, H⟩ := Zb H; obtain ⟨cA, ah, H⟩ := Zb H; refine Zm (mv S rfl fun f S => mv S rfl fun f S => mv S rfl fun f S => ov S rfl (Zi S rfl rfl (Zaa bW)) fun f S => mv S rfl fun f S => mv S rfl fun f S => mv S rfl fun f S => ov S rfl (Zi S rfl rfl ZPb) fun f S => ?_); have aS := Zra V (Zh ah).2.1; obtain ⟨cB, bX⟩ : ∃ c, (List.take (Za .u64).n (List.drop ((v).toNat * (Za .u64).n) o)) = c := ⟨_, rfl⟩; rw [bX] at aS; obtain ⟨rfl, cC⟩ := aS; refine ov S rfl (ZO S rfl rfl ZX (Zh ah).1 (ltI F (Zh ah).2.2.1)) fun f S => ?_; obtain ⟨w, bY, S⟩ := ZDb S Zza (off := 0 + (v).toNat * 1) (z := .int .u64 (u.1)) (cs := [.int .u64 (u.1)]) (Zpb rfl) rfl (i := 0) rfl (Zzb S (j := 0) rfl (ltN F (Zh ah).2.2.2)) (by first | rfl | simp [ZLa]); have bZ : Rep.rels (Za .u64) aM (List.take (0 + (v).toNat * 1) o ++ [Value.int IntKind.u64 (u.1)] ++ List.drop (0 + (v).toNat * 1 + 1) o) (T.set (v).toNat u.1) := Zyb V (Zh ah).2.2.2 (show Rep.rel (Za .u64) aM [.int .u64 (u.1)] _ from (Zr (ZIi aR))) rfl rfl
          have b0 : p = (T.set (v).toNat u.1).length := Ztb F; refine ZZ wn rfl (bY rfl rfl) (mw S rfl fun f S => Zl (Zoa (Zc (bI _ _ ?_)))); obtain ⟨b1, aT, H⟩ := Zb H; refine Zm (ov S rfl (Zi S rfl rfl (Zaa aT)) fun f S => mv S rfl fun f S => Zl ?_); have S := S.fr' (σ' := [(1, .slice (some ⟨au, av, none⟩) h k), (5, .slice (mkA (some aH)) (p) E), (6, .int .i64 (g)), (7, .int .u64 (O)), (8, .int .u64 (IntKind.u64.wrap ((IntKind.u64.wrap (aG.1 + aw.2)) + u.2))), (26, .slice (some ⟨an, ao, none⟩) r s), (27, .int .i64 ((((Zj 18446744073709551616 a)).length : Int))), (28, .int .i64 (g)), (33, .slice (some ⟨au, av, none⟩) h k), (34, .int .i64 ((((Zj 18446744073709551616 b)).length : Int))), (35, .int .i64 (b1))]) rfl; obtain rfl := Zg H; refine bF _ rfl _ _ ⟨_, _, _, some aH, p, E, (List.take (0 + (v).toNat * 1) o ++ [Value.int IntKind.u64 (u.1)] ++ List.drop (0 + (v).toNat * 1 + 1) o), _, rfl, (leT aD aN), (S.fr' rfl), bZ, b0, (Zxa _ _), (Z5 aT).2⟩
        have H := Zx H af; refine ZD S rfl af (wp_exit (ZP ?_)); obtain rfl := Zg H; have hq := bG _ rfl; subst hq; have H := bC; refine ZP (Zna ?_); obtain rfl := Zg H; refine Zc (bA _ _ ⟨_, _, aq, p, E, o, _, rfl, (leT (leR _) aD), (S.fr' rfl), V, F, bE⟩)
      rintro f w ⟨P, m, aC, Q, ap, t, R, hq, aU, S, aV, ax, b2⟩; subst hq; have H := bz; refine Zc (bv _ _ ?_); obtain ⟨B, b3, H⟩ := Zb H; obtain ⟨cD, W, H⟩ := Zb H; refine Zm (mv S rfl fun f S => mv S rfl fun f S => mv S rfl fun f S => ?_); have d := Zp aU d; refine ov S rfl (ZF S (Zu d) rfl rfl ZX) fun f S => ov S rfl (Zi S rfl rfl (Zaa b3)) fun f S => mv S rfl fun f S => ?_; obtain ⟨b4, rfl⟩ := Zjb S (j := 0) rfl (Zmb ax (Zh W).2.2.2); have aW := Zra aV (Zh W).2.1; obtain ⟨cE, b5⟩ : ∃ c, (List.take (Za .u64).n (List.drop ((B).toNat * (Za .u64).n) t)) = c := ⟨_, rfl⟩; rw [b5] at aW; obtain ⟨rfl, cF⟩ := aW; refine ov S rfl (ZO S rfl rfl ZX (Zh W).1 (ltI ax (Zh W).2.2.1)) fun f S => ?_; obtain ⟨w, b6, S⟩ := ZDb S Zza (off := 0 + (B).toNat * 1) (z := .int .u64 (m)) (cs := [.int .u64 (m)]) (Zpb rfl) rfl (i := 0) rfl (Zzb S (j := 0) rfl (ltN ax (Zh W).2.2.2)) (by first | rfl | simp [ZLa]); have b7 : Rep.rels (Za .u64) R (List.take (0 + (B).toNat * 1) t ++ [Value.int IntKind.u64 (m)] ++ List.drop (0 + (B).toNat * 1 + 1) t) (P.set (B).toNat m) := Zyb aV (Zh W).2.2.2 (show Rep.rel (Za .u64) R [.int .u64 (m)] _ from (Zr b2)) rfl rfl; have b8 : Q = (P.set (B).toNat m).length := Ztb ax
      refine ZZ wn rfl (b6 rfl rfl) (Zl (Zoa (Zc (bq _ _ ?_)))); obtain ⟨cG, aX, H⟩ := Zb H; refine Zm (ov S rfl (Zi S rfl rfl (Zaa aX)) fun f S => mv S rfl fun f S => Zl ?_); obtain rfl := Zg H; refine bn _ rfl _ _ ⟨_, _, some b4, Q, ap, (List.take (0 + (B).toNat * 1) t ++ [Value.int IntKind.u64 (m)] ++ List.drop (0 + (B).toNat * 1 + 1) t), _, rfl, (leT am aU), (S.fr' rfl), b7, b8, (Z5 aX).2⟩
    have H := Zx H ae; refine ZD S rfl ae (wp_exit (ZP ?_)); obtain rfl := Zg H; have hq := bo _ rfl; subst hq; have H := bk; refine ZP (Zna ?_); obtain rfl := Zg H; refine Zc (bi _ _ ⟨_, ab, M, ac, ad, _, rfl, (leT (leR _) am), (S.fr' rfl), aK, aL⟩)
  rintro f w ⟨J, Z, L, aa, aA, ak, hq, cH, S, b9, ca⟩; subst hq; have H := bh; refine Zc (be _ _ (Zf fun _ cb => ?_)); obtain ⟨cI, cc, H⟩ := Zb H; refine Zm (mv S rfl fun f S => ?_); obtain ⟨cJ, cK, S, cd⟩ := S.pubSlice (i := 0) (A := (Za .u64)) (l := J) (ℓ' := []) rfl rfl ca b9 rfl; refine opc S rfl (Zn S [.slice (mkA Z) (L) aa] ZMd rfl rfl) (Zxd S.vin (show Rep.rel (Zt (Za .u64)) _ [.slice (mkA Z) (L) aa] J from cd) cc) ?_; rintro _ cL f w cM ⟨cN, rfl, aY⟩ S; obtain ⟨ce, cf, cg, rfl⟩ := Z8 aY; refine mw S rfl fun f S => Zl (Zc (cb _ _ (wp_ret ?_))); obtain rfl := Zg H; refine Zz S (ZN rfl (ZG S rfl)) ⟨[.slice ce cf cg], rfl, aY⟩
theorem Zbg {d : World} {c : Zd} (hv : VIn c d) {e : List Value} {a : Nat} (h : Rep.rel ZC c e a) {f : List Value} {b : Nat} (i : Rep.rel ZC c f b) {z : Nat} (hm : ZSc a b = some z) :
    Ret Tryz.prog 102 #[ZC.val e, ZC.val f] d c (fun y v' => ∃ g, y = ZC.val g ∧ ZC.rel v' g z) :=
  times_w hv h i (Zon hm)
theorem Z1o {k : World} {a : Zd} (hv : VIn a k) {l : List Value} {x : Int} (m : Rep.rel Zca a l x) {o : List Value} {n : Nat} (p : Rep.rel ZC a o n) {z : Int} (H : ZCi x n = some z) : Ret Tryz.prog 103 #[Zca.val l, ZC.val o] k a (fun y v' => ∃ q, y = Zca.val q ∧ Zca.rel v' q z) := by
  obtain ⟨r, b, c, d, rfl⟩ := ZVa m; obtain ⟨s, t, u, rfl⟩ := Z8 p; refine ZV (K := 12) (args := [.agg #[.bool r, .slice b c d], .slice s t u]) hv Tryz.func103 rfl rfl zl fun f S => ?_; unfold ZCi at H; refine sr (ob S rfl (cs := [.bool r, .slice b c d]) rfl fun M f w S => Z0 S wn rfl zl (cs := [.bool false, .slice none 0 0]) (ZW Z5c) fun N f w S => oe (Zf fun _ B => ?_)); obtain ⟨P, C, H⟩ := Zb H; obtain ⟨Q, D, H⟩ := Zb H; refine Zia (fl := #[true, true, true, true, true, false, false, false]) Zja (by kernel_rfl) S ?_; intro ops O F w S; refine rfa O F 0 rfl rfl S (Zy S rfl Znb) fun f S => ?_; obtain ⟨rfl, E⟩ := Zdc m; refine rfa O F 1 rfl rfl S (lo S rfl Zla 1 rfl rfl) fun f S => rfa O F 2 rfl rfl S (Zy S rfl Zdb) fun f S => rfa O F 3 rfl rfl S (lo S rfl Zya 1 rfl rfl) fun f S => rfa O F 4 rfl rfl S (Zo S rfl) fun f S => go1 O F 5 (nxc [3, 4, 2] [0, 1] O rfl S rfl (Zn S [.slice b c d, .slice s t u] ZIg rfl rfl) (Zbg S.vin E p C) ?_); rintro _ R f w T ⟨U, rfl, v⟩ S; obtain ⟨G, I, J, rfl⟩ := Z8 v; refine ⟨(py S rfl rfl (Zy S rfl Znb) (py S rfl rfl (lo S rfl Zla 1 rfl rfl) Zq)), go1 O F 6 (nxc [1, 5, 0, 3, 4, 2] [] O rfl S rfl (Zn S [.bool (decide (x < 0)), .slice G I J] ZJd rfl rfl) (ZCd S.vin (show Rep.rel Z6 _ [.bool (decide (x < 0))] (decide (x < 0)) from ZFa) v D) ?_)⟩
  rintro _ V f w W ⟨X, rfl, A⟩ S; obtain ⟨e, g, h, j, rfl⟩ := ZVa A; refine ⟨Zq, go1 O F 7 ?_⟩; obtain ⟨w, L, S⟩ := sbp S [.bool e, .slice g h j] ZIa 0 0 rfl; refine nxs [0, 1, 2, 3, 4, 5, 6] [] O rfl rfl (L rfl rfl) (⟨Zq, Z3 O F (Zc (B _ _ (wp_ret ?_)))⟩); obtain rfl := Zg H; refine Zz S (ZN rfl (Ztc S rfl ZIa rfl (S.box (i := 0) rfl 0 [.bool e, .slice g h j] rfl))) ⟨[.bool e, .slice g h j], rfl, A⟩
theorem Zch {b : World} {a : Zd} (hv : VIn a b) {c : List Value} {x : Int} (f : Rep.rel Zca a c x) {d : List Value} {n : Nat} (g : Rep.rel ZC a d n) {z : Int} (hm : ZOe x n = some z) :
    Ret Tryz.prog 103 #[Zca.val c, ZC.val d] b a (fun y v' => ∃ e, y = Zca.val e ∧ Zca.rel v' e z) :=
  Z1o hv f g (Zqq hm)
theorem len64_w {b : World} {a : Zd} (hv : VIn a b) {q : List Value} {x : Int} (J : Rep.rel (Za .u64) a q x) {z : Int} (H : Z9g x = some z) : Ret Tryz.prog 196 #[(Za .u64).val q] b a (fun y v' => ∃ r, y = (Za .i64).val r ∧ (Za .i64).rel v' r z) := by
  obtain ⟨rfl, s⟩ := J; refine ZV (K := 25) (args := [.int .u64 (x)]) hv Tryz.func196 rfl rfl zl fun f S => ?_; unfold Z9g at H; refine sr (mw S rfl fun f S => oe (Zf fun _ L => sr (mv S rfl fun f S => ov S rfl (Zi S rfl rfl Zrb) fun f S => oe ?_))); obtain ⟨M, N, O⟩ := Zb H; refine ZQ (fun f w => ∃ (c : Int) (i : Int) (j : Zd), (c, i) = M ∧ Zd.le a j ∧ St 25 b a [(0, .int .u64 (c)), (2, .int .i64 (i))] [] j f w ∧ inR .u64 c ∧ inR .i64 i) (fun _ t => ?_) ?_
  · have H := N; rcases Zv (decide ((4294967296 : Int) ≤ x)) with d | d
    · have H := Zw H d; refine ZE S rfl d (Zf fun _ P => ?_); obtain ⟨ag, u, H⟩ := Zb H; refine Zm (mv S rfl fun f S => ov S rfl (Zi S rfl rfl (ZNb u)) fun f S => mw S rfl fun f S => Zl (Zc (P _ _ (Zm (mw S rfl fun f S => Zl ?_))))); obtain rfl := Zg H; refine Zc (t _ _ ⟨_, _, _, rfl, (leR _), (S.fr' rfl), (ZId s u), (by decide)⟩)
    have H := Zx H d; refine ZD S rfl d (wp_skip ?_); obtain rfl := Zg H; refine Zc (t _ _ ⟨_, _, _, rfl, (leR _), (S.fr' rfl), s, (by decide)⟩)
  rintro f w ⟨c, i, j, hq, ah, S, v, Q⟩; subst hq; have H := O; refine Zc (L _ _ (Zf fun _ R => sr (mv S rfl fun f S => ov S rfl (Zi S rfl rfl Zrb) fun f S => oe ?_))); obtain ⟨T, U, V⟩ := Zb H; refine ZQ (fun f w => ∃ (e : Int) (k : Int) (m : Zd), (e, k) = T ∧ Zd.le j m ∧ St 25 b a [(0, .int .u64 (e)), (2, .int .i64 (k))] [] m f w ∧ inR .u64 e ∧ inR .i64 k) (fun _ A => ?_) ?_
  · have H := U; rcases Zv (decide ((65536 : Int) ≤ c)) with g | g
    · have H := Zw H g; refine ZE S rfl g (Zf fun _ W => ?_); obtain ⟨ai, B, H⟩ := Zb H; refine Zm (mv S rfl fun f S => ov S rfl (Zi S rfl rfl (ZNb B)) fun f S => mw S rfl fun f S => Zl (Zc (W _ _ ?_))); obtain ⟨aj, C, H⟩ := Zb H; refine Zm (mv S rfl fun f S => ov S rfl (Zi S rfl rfl (Zaa C)) fun f S => mw S rfl fun f S => Zl ?_); obtain rfl := Zg H; refine Zc (A _ _ ⟨_, _, _, rfl, (leR _), (S.fr' rfl), (ZId v B), (Z5 C).2⟩)
    have H := Zx H g; refine ZD S rfl g (wp_skip ?_); obtain rfl := Zg H; refine Zc (A _ _ ⟨_, _, _, rfl, (leR _), (S.fr' rfl), v, Q⟩)
  rintro f w ⟨e, k, m, hq, ak, S, D, X⟩; subst hq; have H := V; refine Zc (R _ _ (Zf fun _ Y => sr (mv S rfl fun f S => ov S rfl (Zi S rfl rfl Zrb) fun f S => oe ?_))); obtain ⟨Z, aa, ab⟩ := Zb H; refine ZQ (fun f w => ∃ (n : Int) (o : Int) (p : Zd), (n, o) = Z ∧ Zd.le m p ∧ St 25 b a [(0, .int .u64 (n)), (2, .int .i64 (o))] [] p f w ∧ inR .u64 n ∧ inR .i64 o) (fun _ E => ?_) ?_
  · have H := aa; rcases Zv (decide ((256 : Int) ≤ e)) with h | h
    · have H := Zw H h; refine ZE S rfl h (Zf fun _ ac => ?_); obtain ⟨al, F, H⟩ := Zb H; refine Zm (mv S rfl fun f S => ov S rfl (Zi S rfl rfl (ZNb F)) fun f S => mw S rfl fun f S => Zl (Zc (ac _ _ ?_))); obtain ⟨am, G, H⟩ := Zb H; refine Zm (mv S rfl fun f S => ov S rfl (Zi S rfl rfl (Zaa G)) fun f S => mw S rfl fun f S => Zl ?_); obtain rfl := Zg H; refine Zc (E _ _ ⟨_, _, _, rfl, (leR _), (S.fr' rfl), (ZId D F), (Z5 G).2⟩)
    have H := Zx H h; refine ZD S rfl h (wp_skip ?_); obtain rfl := Zg H; refine Zc (E _ _ ⟨_, _, _, rfl, (leR _), (S.fr' rfl), D, X⟩)
  rintro f w ⟨n, o, p, hq, an, S, ao, ap⟩; subst hq; have H := ab; refine Zc (Y _ _ (Zf fun _ ad => ?_)); obtain ⟨aq, ae, H⟩ := Zb H; obtain ⟨af, I, H⟩ := Zb H; refine Zm (mv S rfl fun f S => mv S rfl fun f S => ov S rfl (ZHa S rfl (ZUk _)) fun f S => ov S rfl (Z2o S (l := ([0, 1, 2, 2, 3, 3, 3, 3, 4, 4, 4, 4, 4, 4, 4, 4, 5, 5, 5, 5, 5, 5, 5, 5, 5, 5, 5, 5, 5, 5, 5, 5, 6, 6, 6, 6, 6, 6, 6, 6, 6, 6, 6, 6, 6, 6, 6, 6, 6, 6, 6, 6, 6, 6, 6, 6, 6, 6, 6, 6, 6, 6, 6, 6, 7, 7, 7, 7, 7, 7, 7, 7, 7, 7, 7, 7, 7, 7, 7, 7, 7, 7, 7, 7, 7, 7, 7, 7, 7, 7, 7, 7, 7, 7, 7, 7, 7, 7, 7, 7, 7, 7, 7, 7, 7, 7, 7, 7, 7, 7, 7, 7, 7, 7, 7, 7, 7, 7, 7, 7, 7, 7, 7, 7, 7, 7, 7, 7, 8, 8, 8, 8, 8, 8, 8, 8, 8, 8, 8, 8, 8, 8, 8, 8, 8, 8, 8, 8, 8, 8, 8, 8, 8, 8, 8, 8, 8, 8, 8, 8, 8, 8, 8, 8, 8, 8, 8, 8, 8, 8, 8, 8, 8, 8, 8, 8, 8, 8, 8, 8, 8, 8, 8, 8, 8, 8, 8, 8, 8, 8, 8, 8, 8, 8, 8, 8, 8, 8, 8, 8, 8, 8, 8, 8, 8, 8, 8, 8, 8, 8, 8, 8, 8, 8, 8, 8, 8, 8, 8, 8, 8, 8, 8, 8, 8, 8, 8, 8, 8, 8, 8, 8, 8, 8, 8, 8, 8, 8, 8, 8, 8, 8, 8, 8, 8, 8, 8, 8, 8, 8, 8, 8, 8, 8, 8, 8] : List UInt8)) (by kernel_rfl) rfl Tryz.underlying9 ae) fun f S => ov S rfl (ZHa S rfl (k_cv5_3 _)) fun f S => ov S rfl (Zi S rfl rfl (Zaa I)) fun f S => mw S rfl fun f S => Zl (Zc (ad _ _ (wp_ret ?_)))); obtain rfl := Zg H; refine Zz S (ZN rfl (ZG S rfl)) ⟨[.int .i64 (af)], rfl, (Zr (Z5 I).2)⟩
theorem len64_c {b : World} {a : Zd} (hv : VIn a b) {c : List Value} {x : Int} (e : Rep.rel (Za .u64) a c x) {z : Int} (hm : Zvg x = some z) :
    Ret Tryz.prog 196 #[(Za .u64).val c] b a (fun y v' => ∃ d, y = (Za .i64).val d ∧ (Za .i64).rel v' d z) :=
  len64_w hv e (Zyo hm)
theorem lz64_w {b : World} {a : Zd} (hv : VIn a b) {c : List Value} {x : Int} (g : Rep.rel (Za .u64) a c x) {z : Int} (H : Zki x = some z) : Ret Tryz.prog 176 #[(Za .u64).val c] b a (fun y v' => ∃ d, y = (Za .i64).val d ∧ (Za .i64).rel v' d z) := by
  obtain ⟨rfl, h⟩ := g; refine ZV (K := 6) (args := [.int .u64 (x)]) hv Tryz.func176 rfl rfl zl fun f S => ?_; unfold Zki at H; refine sr (mw S rfl fun f S => oe (Zf fun _ i => ?_)); obtain ⟨m, j, H⟩ := Zb H; obtain ⟨k, e, H⟩ := Zb H; refine Zm (mv S rfl fun f S => opc S rfl (Zn S [.int .u64 (x)] k_en196 rfl rfl) (len64_c S.vin (show Rep.rel (Za .u64) _ [.int .u64 (x)] x from (Zr h)) j) ?_); rintro _ n f w o ⟨p, rfl, l⟩ S; obtain ⟨rfl, q⟩ := l; refine ov S rfl (Zi S rfl rfl (Zwa e)) fun f S => mw S rfl fun f S => Zl (Zc (i _ _ (wp_ret ?_))); obtain rfl := Zg H; refine Zz S (ZN rfl (ZG S rfl)) ⟨[.int .i64 (k)], rfl, (Zr (Z5 e).2)⟩
theorem Zol {b : World} {a : Zd} (hv : VIn a b) {c : List Value} {x : Int} (e : Rep.rel (Za .u64) a c x) {z : Int} (hm : Z2d x = some z) :
    Ret Tryz.prog 176 #[(Za .u64).val c] b a (fun y v' => ∃ d, y = (Za .i64).val d ∧ (Za .i64).rel v' d z) :=
  lz64_w hv e (Zrq hm)
theorem div64_w {e : World} {c : Zd} (hv : VIn c e) {X : List Value} {hi : Int} (p0 : Rep.rel (Za .u64) c X hi) {Y : List Value} {lo : Int} (p1 : Rep.rel (Za .u64) c Y lo) {Z : List Value} {y : Int} (p2 : Rep.rel (Za .u64) c Z y) {z : Int × Int} (H : Zng hi lo y = some z) : Ret Tryz.prog 190 #[(Za .u64).val X, (Za .u64).val Y, (Za .u64).val Z] e c (fun y v' => ∃ r0 M, y = .tuple #[(Za .u64).val r0, (Za .u64).val M] ∧ (Za .u64).rel v' r0 z.1 ∧ (Za .u64).rel v' M z.2) := by
  obtain ⟨rfl, M⟩ := p0; obtain ⟨rfl, r2⟩ := p1; obtain ⟨rfl, r3⟩ := p2; refine ZV (K := 135) (args := [.int .u64 (hi), .int .u64 (lo), .int .u64 (y)]) hv Tryz.func190 rfl rfl zl fun f S => ?_; unfold Zng at H; refine sr (mw S rfl fun f S => mw S rfl fun f S => oe (Zf fun _ an => sr (mv S rfl fun f S => ov S rfl (Zi S rfl rfl Z1) fun f S => oe ?_))); rcases Zv (y == ((0 : Int))) with q | q
  · have H := Zw H q; refine ZE S rfl q ?_
    cases H
  have H := Zx H q; refine ZD S rfl q (wp_skip (Zc (an _ _ (Zf fun _ ao => sr (mv S rfl fun f S => mv S rfl fun f S => ov S rfl (Zi S rfl rfl Zve) fun f S => oe ?_))))); rcases Zv (decide (y ≤ hi)) with r | r
  · have H := Zw H r; refine ZE S rfl r ?_
    cases H
  have H := Zx H r; refine ZD S rfl r (wp_skip (Zc (ao _ _ (Zf fun _ ap => sr (mv S rfl fun f S => ov S rfl (Zi S rfl rfl Z1) fun f S => oe ?_))))); rcases Zv (hi == ((0 : Int))) with s | s
  · have H := Zw H s; refine ZE S rfl s (Zf fun _ aq => ?_); obtain ⟨ar, aa, H⟩ := Zb H; obtain ⟨au, N, H⟩ := Zb H; refine Zia (fl := #[true, true, true, true, true, true, false, false]) Zja (by kernel_rfl) S ?_; intro ops O F w S; refine rfa O F 0 rfl rfl S (Zo S rfl) fun f S => rfa O F 1 rfl rfl S (Zo S rfl) fun f S => rfa O F 2 rfl rfl S (Zi S rfl rfl (ZWb aa)) fun f S => rfa O F 3 rfl rfl S (Zo S rfl) fun f S => rfa O F 4 rfl rfl S (Zo S rfl) fun f S => rfa O F 5 rfl rfl S (Zi S rfl rfl (Zuc N)) fun f S => go1 O F 6 (nva [0, 1, 2] [3, 4, 5] O rfl rfl S (Zka S rfl) fun f S => ⟨(py S rfl rfl (Zo S rfl) (py S rfl rfl (Zo S rfl) (py S rfl rfl (Zi S rfl rfl (Zuc N)) Zq))), go1 O F 7 (nva [0, 1, 2, 3, 4, 5, 6] [] O rfl rfl S (Zka S rfl) fun f S => ⟨Zq, Z3 O F (Zc (aq _ _ ?_))⟩)⟩); refine wp_ret (ZR ?_); obtain rfl := Zg H; refine Zz S (ZAa rfl (ZG S rfl) (ZG S rfl)) ⟨[.int .u64 (ar)], [.int .u64 (au)], rfl, (Zr (Z3e aa)), (Zr (Zkk r2 N))⟩
  have H := Zx H s; refine ZD S rfl s (wp_skip (Zc (ap _ _ (Zf fun _ av => ?_)))); obtain ⟨h, aw, H⟩ := Zb H; refine Zm (mv S rfl fun f S => opc S rfl (Zn S [.int .u64 (y)] Zrl rfl rfl) (Zol S.vin (show Rep.rel (Za .u64) _ [.int .u64 (y)] y from (Zr r3)) aw) ?_); rintro _ ab f w bd ⟨be, rfl, ax⟩ S; obtain ⟨rfl, bf⟩ := ax; refine ov S rfl (ZHa S rfl (Zyj _)) fun f S => mw S rfl fun f S => Zl (Zc (av _ _ (Zf fun _ ay => ?_))); obtain ⟨a, az, H⟩ := Zb H; refine Zm (mv S rfl fun f S => mv S rfl fun f S => ov S rfl (Zi S rfl rfl (Z5d az)) fun f S => mw S rfl fun f S => Zl (Zc (ay _ _ (Zf fun _ aA => ?_)))); obtain ⟨g, aB, H⟩ := Zb H; refine Zm (mv S rfl fun f S => ov S rfl (Zi S rfl rfl (ZNb aB)) fun f S => mw S rfl fun f S => Zl (Zc (aA _ _ (sr (mv S rfl fun f S => ov S rfl (Zi S rfl rfl Zlf) fun f S => mw S rfl fun f S => oe (Zf fun _ aC => ?_)))))); obtain ⟨i, aD, H⟩ := Zb H; obtain ⟨j, aE, H⟩ := Zb H; refine Zm (mv S rfl fun f S => mv S rfl fun f S => ov S rfl (Zi S rfl rfl (Z5d aD)) fun f S => mv S rfl fun f S => mv S rfl fun f S => ov S rfl (Zi S rfl rfl ZHd) fun f S => ov S rfl (Zi S rfl rfl (ZNb aE)) fun f S => ov S rfl (Zi S rfl rfl Zgf) fun f S => mw S rfl fun f S => Zl ?_); have S := S.fr' (σ' := [(1, .int .u64 (lo)), (2, .int .u64 (a)), (8, .int .u64 (IntKind.u64.wrap h)), (9, .int .u64 (g)), (10, .int .u64 (ZQa .u64 a ((4294967295 : Int)))), (11, .int .u64 (orI .u64 i j))]) rfl
  refine Zc (aC _ _ (Zf fun _ aF => ?_)); obtain ⟨k, aG, H⟩ := Zb H; refine Zm (mv S rfl fun f S => mv S rfl fun f S => ov S rfl (Zi S rfl rfl (Z5d aG)) fun f S => mw S rfl fun f S => Zl (Zc (aF _ _ (Zf fun _ aH => ?_)))); obtain ⟨l, aI, H⟩ := Zb H; refine Zm (mv S rfl fun f S => ov S rfl (Zi S rfl rfl (ZNb aI)) fun f S => mw S rfl fun f S => Zl (Zc (aH _ _ (sr (mv S rfl fun f S => ov S rfl (Zi S rfl rfl Zlf) fun f S => mw S rfl fun f S => oe (Zf fun _ aJ => ?_)))))); obtain ⟨bg, ac, H⟩ := Zb H; refine Zm (mv S rfl fun f S => mv S rfl fun f S => ov S rfl (Zi S rfl rfl (ZWb ac)) fun f S => mw S rfl fun f S => Zl (Zc (aJ _ _ (sr (mv S rfl fun f S => mv S rfl fun f S => mv S rfl fun f S => ov S rfl (Zi S rfl rfl Z8b) fun f S => ov S rfl (Zi S rfl rfl ZHd) fun f S => mw S rfl fun f S => ?_))))); refine oe (Zf fun _ aK => ?_); obtain ⟨aL, aM, aN⟩ := Zb H; refine ZQ (fun f w => ∃ (d : Int) (u : Zd), d = aL ∧ Zd.le ab u ∧ St 135 e c [(2, .int .u64 (a)), (8, .int .u64 (IntKind.u64.wrap h)), (9, .int .u64 (g)), (10, .int .u64 (ZQa .u64 a ((4294967295 : Int)))), (11, .int .u64 (orI .u64 i j)), (13, .int .u64 (l)), (14, .int .u64 (ZQa .u64 k ((4294967295 : Int)))), (15, .int .u64 (d))] [] u f w ∧ inR .u64 d) (fun _ ad => ?_) ?_
  · have H := aM; refine wp_block ?_; obtain ⟨bh, aO, ae⟩ := Zb H; refine Zqa aO (fun aP f w => ∃ (m : Int) (n : Int) (G : Zd), (m, n) = aP ∧ Zd.le ab G ∧ St 135 e c [(2, .int .u64 (a)), (8, .int .u64 (IntKind.u64.wrap h)), (9, .int .u64 (g)), (10, .int .u64 (ZQa .u64 a ((4294967295 : Int)))), (11, .int .u64 (orI .u64 i j)), (13, .int .u64 (l)), (14, .int .u64 (ZQa .u64 k ((4294967295 : Int)))), (15, .int .u64 (m)), (16, .int .u64 (n))] [] G f w ∧ inR .u64 m ∧ inR .u64 n) ⟨_, _, _, rfl, (leR _), (S.fr' rfl), (Z3e ac), (Zxa _ _)⟩ ?_; rintro _ f w st ⟨m, n, G, hq, P, S, aQ, bi⟩ H bj aR af; subst hq; refine Zf fun _ aS => Zf fun _ aT => ?_; obtain ⟨aU, aV, aW⟩ := Zb H; refine ZQ (fun f w => ∃ (I : Bool) (Q : Zd), I = aU ∧ Zd.le G Q ∧ St 135 e c [(2, .int .u64 (a)), (8, .int .u64 (IntKind.u64.wrap h)), (9, .int .u64 (g)), (10, .int .u64 (ZQa .u64 a ((4294967295 : Int)))), (11, .int .u64 (orI .u64 i j)), (13, .int .u64 (l)), (14, .int .u64 (ZQa .u64 k ((4294967295 : Int)))), (15, .int .u64 (m)), (16, .int .u64 (n)), (78, .bool (I))] [] Q f w) (fun _ ag => ?_) ?_
    · have H := aV; rcases Zv (decide ((4294967296 : Int) ≤ m)) with v | v
      · have H := Zw H v; refine Zm (mv S rfl fun f S => ov S rfl (Zi S rfl rfl Zrb) fun f S => ?_); have S := S.bool (t := 68) rfl v; refine mv S rfl fun f S => opn S rfl rfl rfl rfl fun f S => opn S rfl rfl rfl rfl fun f S => opn S rfl rfl rfl rfl fun f S => opn S rfl rfl rfl rfl fun f S => opn S rfl rfl rfl rfl fun f S => opn S rfl rfl rfl rfl fun f S => opn S rfl rfl rfl rfl fun f S => opn S rfl rfl rfl rfl fun f S => ov S rfl (ZB S (b := true) rfl rfl) fun f S => Zl ?_; obtain rfl := Zg H; refine Zc (ag _ _ ⟨_, _, rfl, (leR _), (S.fr' rfl)⟩)
      have H := Zx H v; refine Zm (mv S rfl fun f S => ov S rfl (Zi S rfl rfl Zrb) fun f S => ?_); have S := S.bool (t := 68) rfl v; refine mv S rfl fun f S => opy S rfl rfl rfl rfl (Zo S rfl) fun f S => opy S rfl rfl rfl rfl (Zo S rfl) fun f S => opy S rfl rfl rfl rfl (Zi S rfl rfl Z8b) fun f S => opy S rfl rfl rfl rfl (Zo S rfl) fun f S => opy S rfl rfl rfl rfl (Zi S rfl rfl Z8b) fun f S => opy S rfl rfl rfl rfl (Zo S rfl) fun f S => opy S rfl rfl rfl rfl (Zi S rfl rfl ZPb) fun f S => opy S rfl rfl rfl rfl (Zi S rfl rfl ZEa) fun f S => ov S rfl (ZB S (b := false) rfl rfl) fun f S => Zl ?_; obtain rfl := Zg H; refine Zc (ag _ _ ⟨_, _, rfl, (leR _), (S.fr' rfl)⟩)
    rintro f w ⟨I, Q, hq, R, S⟩; subst hq; have H := aW; refine Zc (aT _ _ ?_); rcases Zv (I) with x | x
    · have H := Zw H x; refine ZE S rfl x (wp_skip (Zc (aS _ _ (wp_block (sr (mv S rfl fun f S => ov S rfl (Zi S rfl rfl ZHd) fun f S => mw S rfl fun f S => oe (sr (mv S rfl fun f S => mv S rfl fun f S => ov S rfl (Zi S rfl rfl ZPb) fun f S => mw S rfl fun f S => ?_)))))))); refine oe (sr (mv S rfl fun f S => ov S rfl (Zi S rfl rfl Zrb) fun f S => oe ?_)); rcases Zv (decide ((4294967296 : Int) ≤ IntKind.u64.wrap (n + g))) with A | A
      · have H := Zw H A; refine ZE S rfl A (wp_exit (Zoh rfl ?_)); obtain rfl := Zg H; have hq := af _ rfl; subst hq; have H := ae; refine ZP (Zna ?_); obtain rfl := Zg H; refine Zc (ad _ _ ⟨_, _, rfl, (leT (leT (leR _) P) R), (S.fr' rfl), (Zxa _ _)⟩)
      have H := Zx H A; refine ZD S rfl A (wp_skip (Zoa ?_)); obtain rfl := Zg H; refine aR _ rfl _ _ ⟨_, _, _, rfl, (leT P R), (S.fr' rfl), (Zxa _ _), (Zxa _ _)⟩
    have H := Zx H x; refine ZD S rfl x (wp_exit (ZP ?_)); obtain rfl := Zg H; have hq := af _ rfl; subst hq; have H := ae; refine ZP (Zna ?_); obtain rfl := Zg H; refine Zc (ad _ _ ⟨_, _, rfl, (leT (leT (leR _) P) R), (S.fr' rfl), aQ⟩)
  rintro f w ⟨d, u, hq, bk, S, bm⟩; subst hq; have H := aN; refine Zc (aK _ _ (sr (mv S rfl fun f S => ov S rfl (Zi S rfl rfl Z8b) fun f S => mv S rfl fun f S => ov S rfl (Zi S rfl rfl ZPb) fun f S => mv S rfl fun f S => mv S rfl fun f S => ov S rfl (Zi S rfl rfl Z8b) fun f S => ov S rfl (Zi S rfl rfl ZHd) fun f S => mw S rfl fun f S => oe (Zf fun _ aX => ?_)))); obtain ⟨bn, ah, H⟩ := Zb H; refine Zm (mv S rfl fun f S => mv S rfl fun f S => ov S rfl (Zi S rfl rfl (ZWb ah)) fun f S => mw S rfl fun f S => Zl (Zc (aX _ _ (sr (mv S rfl fun f S => mv S rfl fun f S => mv S rfl fun f S => ov S rfl (Zi S rfl rfl Z8b) fun f S => ov S rfl (Zi S rfl rfl ZHd) fun f S => mw S rfl fun f S => ?_))))); refine oe (Zf fun _ aY => ?_); obtain ⟨aZ, a0, a1⟩ := Zb H; refine ZQ (fun f w => ∃ (B : Int) (T : Zd), B = aZ ∧ Zd.le u T ∧ St 135 e c [(2, .int .u64 (a)), (8, .int .u64 (IntKind.u64.wrap h)), (14, .int .u64 (ZQa .u64 k ((4294967295 : Int)))), (15, .int .u64 (d)), (17, .int .u64 (IntKind.u64.wrap ((IntKind.u64.wrap ((IntKind.u64.wrap ((orI .u64 i j) * ((4294967296 : Int)))) + l)) - (IntKind.u64.wrap (d * a))))), (18, .int .u64 (B))] [] T f w ∧ inR .u64 B) (fun _ ai => ?_) ?_
  · have H := a0; refine wp_block ?_; obtain ⟨bo, a2, aj⟩ := Zb H; refine Zqa a2 (fun a3 f w => ∃ (o : Int) (p : Int) (J : Zd), (o, p) = a3 ∧ Zd.le u J ∧ St 135 e c [(2, .int .u64 (a)), (8, .int .u64 (IntKind.u64.wrap h)), (9, .int .u64 (g)), (10, .int .u64 (ZQa .u64 a ((4294967295 : Int)))), (14, .int .u64 (ZQa .u64 k ((4294967295 : Int)))), (15, .int .u64 (d)), (16, .int .u64 (o)), (17, .int .u64 (IntKind.u64.wrap ((IntKind.u64.wrap ((IntKind.u64.wrap ((orI .u64 i j) * ((4294967296 : Int)))) + l)) - (IntKind.u64.wrap (d * a))))), (18, .int .u64 (p))] [] J f w ∧ inR .u64 o ∧ inR .u64 p) ⟨_, _, _, rfl, (leR _), (S.fr' rfl), (Zxa _ _), (Z3e ah)⟩ ?_; rintro _ f w st ⟨o, p, J, hq, U, S, bp, a4⟩ H bq a5 ak; subst hq; refine Zf fun _ a6 => Zf fun _ a7 => ?_; obtain ⟨a8, a9, ba⟩ := Zb H; refine ZQ (fun f w => ∃ (L : Bool) (V : Zd), L = a8 ∧ Zd.le J V ∧ St 135 e c [(2, .int .u64 (a)), (8, .int .u64 (IntKind.u64.wrap h)), (9, .int .u64 (g)), (10, .int .u64 (ZQa .u64 a ((4294967295 : Int)))), (14, .int .u64 (ZQa .u64 k ((4294967295 : Int)))), (15, .int .u64 (d)), (16, .int .u64 (o)), (17, .int .u64 (IntKind.u64.wrap ((IntKind.u64.wrap ((IntKind.u64.wrap ((orI .u64 i j) * ((4294967296 : Int)))) + l)) - (IntKind.u64.wrap (d * a))))), (18, .int .u64 (p)), (113, .bool (L))] [] V f w) (fun _ al => ?_) ?_
    · have H := a9; rcases Zv (decide ((4294967296 : Int) ≤ p)) with C | C
      · have H := Zw H C; refine Zm (mv S rfl fun f S => ov S rfl (Zi S rfl rfl Zrb) fun f S => ?_); have S := S.bool (t := 103) rfl C; refine mv S rfl fun f S => opn S rfl rfl rfl rfl fun f S => opn S rfl rfl rfl rfl fun f S => opn S rfl rfl rfl rfl fun f S => opn S rfl rfl rfl rfl fun f S => opn S rfl rfl rfl rfl fun f S => opn S rfl rfl rfl rfl fun f S => opn S rfl rfl rfl rfl fun f S => opn S rfl rfl rfl rfl fun f S => ov S rfl (ZB S (b := true) rfl rfl) fun f S => Zl ?_; obtain rfl := Zg H; refine Zc (al _ _ ⟨_, _, rfl, (leR _), (S.fr' rfl)⟩)
      have H := Zx H C; refine Zm (mv S rfl fun f S => ov S rfl (Zi S rfl rfl Zrb) fun f S => ?_); have S := S.bool (t := 103) rfl C; refine mv S rfl fun f S => opy S rfl rfl rfl rfl (Zo S rfl) fun f S => opy S rfl rfl rfl rfl (Zo S rfl) fun f S => opy S rfl rfl rfl rfl (Zi S rfl rfl Z8b) fun f S => opy S rfl rfl rfl rfl (Zo S rfl) fun f S => opy S rfl rfl rfl rfl (Zi S rfl rfl Z8b) fun f S => opy S rfl rfl rfl rfl (Zo S rfl) fun f S => opy S rfl rfl rfl rfl (Zi S rfl rfl ZPb) fun f S => opy S rfl rfl rfl rfl (Zi S rfl rfl ZEa) fun f S => ov S rfl (ZB S (b := false) rfl rfl) fun f S => Zl ?_; obtain rfl := Zg H; refine Zc (al _ _ ⟨_, _, rfl, (leR _), (S.fr' rfl)⟩)
    rintro f w ⟨L, V, hq, W, S⟩; subst hq; have H := ba; refine Zc (a7 _ _ ?_); rcases Zv (L) with D | D
    · have H := Zw H D; refine ZE S rfl D (wp_skip (Zc (a6 _ _ (wp_block (sr (mv S rfl fun f S => ov S rfl (Zi S rfl rfl ZHd) fun f S => mw S rfl fun f S => oe (sr (mv S rfl fun f S => mv S rfl fun f S => ov S rfl (Zi S rfl rfl ZPb) fun f S => mw S rfl fun f S => ?_)))))))); refine oe (sr (mv S rfl fun f S => ov S rfl (Zi S rfl rfl Zrb) fun f S => oe ?_)); rcases Zv (decide ((4294967296 : Int) ≤ IntKind.u64.wrap (o + g))) with E | E
      · have H := Zw H E; refine ZE S rfl E (wp_exit (Zoh rfl ?_)); obtain rfl := Zg H; have hq := ak _ rfl; subst hq; have H := aj; refine ZP (Zna ?_); obtain rfl := Zg H; refine Zc (ai _ _ ⟨_, _, rfl, (leT (leT (leR _) U) W), (S.fr' rfl), (Zxa _ _)⟩)
      have H := Zx H E; refine ZD S rfl E (wp_skip (Zoa ?_)); obtain rfl := Zg H; refine a5 _ rfl _ _ ⟨_, _, _, rfl, (leT U W), (S.fr' rfl), (Zxa _ _), (Zxa _ _)⟩
    have H := Zx H D; refine ZD S rfl D (wp_exit (ZP ?_)); obtain rfl := Zg H; have hq := ak _ rfl; subst hq; have H := aj; refine ZP (Zna ?_); obtain rfl := Zg H; refine Zc (ai _ _ ⟨_, _, rfl, (leT (leT (leR _) U) W), (S.fr' rfl), a4⟩)
  rintro f w ⟨B, T, hq, br, S, bs⟩; subst hq; have H := a1; refine Zc (aY _ _ (Zf fun _ bb => ?_)); obtain ⟨bc, am, H⟩ := Zb H; refine Zm (mv S rfl fun f S => ov S rfl (Zi S rfl rfl Z8b) fun f S => mv S rfl fun f S => ov S rfl (Zi S rfl rfl ZPb) fun f S => mv S rfl fun f S => ov S rfl (Zi S rfl rfl Z8b) fun f S => mv S rfl fun f S => ov S rfl (Zi S rfl rfl ZPb) fun f S => mv S rfl fun f S => mv S rfl fun f S => ov S rfl (Zi S rfl rfl Z8b) fun f S => ov S rfl (Zi S rfl rfl ZHd) fun f S => mv S rfl fun f S => ?_); refine ov S rfl (Zi S rfl rfl (ZNb am)) fun f S => mw S rfl fun f S => mw S rfl fun f S => Zl (Zc (bb _ _ (wp_ret ?_))); obtain rfl := Zg H; refine Zz S (ZAa rfl (ZG S rfl) (ZG S rfl)) ⟨[.int .u64 (IntKind.u64.wrap ((IntKind.u64.wrap (d * ((4294967296 : Int)))) + B))], [.int .u64 (bc)], rfl, (Zr (Zxa _ _)), (Zr (ZId (Zxa _ _) am))⟩
theorem Z4k {b : World} {a : Zd} (hv : VIn a b) {c : List Value} {hi : Int} (h : Rep.rel (Za .u64) a c hi) {d : List Value} {lo : Int} (i : Rep.rel (Za .u64) a d lo) {e : List Value} {y : Int} (j : Rep.rel (Za .u64) a e y) {z : Int × Int} (hm : ZAd hi lo y = some z) :
    Ret Tryz.prog 190 #[(Za .u64).val c, (Za .u64).val d, (Za .u64).val e] b a (fun y v' => ∃ f g, y = Value.tuple #[(Za .u64).val f, (Za .u64).val g] ∧ (Za .u64).rel v' f z.1 ∧ (Za .u64).rel v' g z.2) :=
  div64_w hv h i j (ZGn hm)
theorem Zlo {E : World} {d : Zd} (hv : VIn d E) {R : List Value} {a : Nat} (g : Rep.rel ZC d R a) {T : List Value} {n : Int} (p1 : Rep.rel (Za .u64) d T n) {z : Nat × Int} (H : ZXg a n = some z) : Ret Tryz.prog 167 #[ZC.val R, (Za .u64).val T] E d (fun y v' => ∃ U V, y = .tuple #[ZC.val U, (Za .u64).val V] ∧ ZC.rel v' U z.1 ∧ (Za .u64).rel v' V z.2) := by
  obtain ⟨W, X, Y, rfl⟩ := Z8 g; obtain ⟨rfl, r4⟩ := p1; refine ZV (K := 35) (args := [.slice W X Y, .int .u64 (n)]) hv Tryz.func167 rfl rfl zl fun f S => ?_; unfold ZXg at H; refine sr (mw S rfl fun f S => mw S rfl fun f S => oe (Zf fun _ ah => ?_)); obtain ⟨y9, F, H⟩ := Zb H; refine Zm (mv S rfl fun f S => ov S rfl (ZF S (Zu g) rfl rfl ZX) fun f S => ?_); obtain ⟨Z, aa⟩ : ∃ c : List Value, c = (List.replicate ((((Zj 18446744073709551616 a)).length : Int)).toNat [.int .u64 ((0 : Int))]).flatten := ⟨_, rfl⟩; obtain ⟨ai, w, aj, S⟩ := Zib ZIc S (l := (((Zj 18446744073709551616 a)).length : Int)) (c := (((Zj 18446744073709551616 a)).length : Int)) (ZY F).1 (ZY F).2.1 (ZY F).2.2.1 (ZY F).2.2.2 aa; have ak : Rep.rels (Za .u64) d Z (List.replicate ((((Zj 18446744073709551616 a)).length : Int)).toNat ((0 : Int))) := by rw [aa]; exact Zbb (show Rep.rel (Za .u64) _ [.int .u64 ((0 : Int))] _ from (Zr (by decide))) _
  refine Zua wn rfl zl (aj rfl rfl) S fun f S => mw S rfl fun f S => Zl (Zc (ah _ _ (sr (mw S rfl fun f S => oe (Zf fun _ al => Zf fun _ am => ?_))))); obtain ⟨aV, ab, H⟩ := Zb H; refine Zm (mv S rfl fun f S => ov S rfl (ZF S (Zu g) rfl rfl ZX) fun f S => ov S rfl (Zi S rfl rfl (Zwa ab)) fun f S => mw S rfl fun f S => Zl (Zc (am _ _ ?_))); obtain ⟨an, ao, ap⟩ := Zb H; refine ZQ (fun f w => ∃ (o : (List Int)) (s : Int) (t : Option Nat) (p : Nat) (u : Nat) (L : List Value) (G : Zd), (o, s) = an ∧ Zd.le d G ∧ St 35 E d [(6, .slice (mkA t) (p) u), (7, .int .u64 (s))] [Loc.own t 211 1 (p) u L] G f w ∧ Rep.rels (Za .u64) G L o ∧ p = o.length ∧ inR .u64 s) (fun _ aq => ?_) ?_
  · have H := ao; refine wp_block ?_; obtain ⟨aW, ar, au⟩ := Zb H; refine Zqa ar (fun av f w => ∃ (q : (List Int)) (h : Int) (b : Int) (I : Option Nat) (k : Nat) (v : Nat) (e : List Value) (J : Zd), (q, h, b) = av ∧ Zd.le d J ∧ St 35 E d [(0, .slice W X Y), (1, .int .u64 (n)), (6, .slice (mkA I) (k) v), (7, .int .u64 (h)), (8, .int .i64 (b))] [Loc.own I 211 1 (k) v e] J f w ∧ Rep.rels (Za .u64) J e q ∧ k = q.length ∧ inR .u64 h ∧ inR .i64 b) ⟨_, _, _, some ai, ((((Zj 18446744073709551616 a)).length : Int)).toNat, ((((Zj 18446744073709551616 a)).length : Int)).toNat, Z, _, rfl, (leR _), (S.fr' rfl), ak, (ZWa (x := (0 : Int))), (by decide), (Z5 ab).2⟩ ?_; rintro _ f w st ⟨q, h, b, I, k, v, e, J, hq, M, S, B, C, ac, aX⟩ H aY aw ax; subst hq; refine Zf fun _ ay => sr (mv S rfl fun f S => ov S rfl (Zi S rfl rfl Zrb) fun f S => oe ?_); rcases Zv (decide ((0 : Int) ≤ b)) with D | D
    · have H := Zw H D; refine ZE S rfl D (wp_skip (Zc (ay _ _ (Zf fun _ az => wp_block ?_)))); obtain ⟨N, O, H⟩ := Zb H; obtain ⟨m, aA, H⟩ := Zb H; obtain ⟨aZ, r, H⟩ := Zb H; refine Zm (mv S rfl fun f S => mv S rfl fun f S => mv S rfl fun f S => mv S rfl fun f S => mv S rfl fun f S => ?_); have g := Zp M g; obtain ⟨_, a0, a1, a2, rfl, P, aB⟩ := Zha g (Zh O).2.1; obtain ⟨rfl, aC⟩ := aB; refine ov S rfl (ZO S rfl rfl ZX (Zh O).1 (ltI (Zu g) (Zh O).2.2.1)) fun f S => ov S rfl (ZU S rfl Zza (S.view P)) fun f S => mv S rfl fun f S => opc S rfl (Zn S [.int .u64 (h), .int .u64 (N), .int .u64 (n)] ZEm rfl rfl) (Z4k S.vin (show Rep.rel (Za .u64) _ [.int .u64 (h)] h from (Zr ac)) (show Rep.rel (Za .u64) _ [.int .u64 (N)] N from (Zr aC)) (show Rep.rel (Za .u64) _ [.int .u64 (n)] n from (Zr r4)) aA) ?_; rintro _ ad f w Q ⟨a3, a4, rfl, aD, aE⟩ S; have B := ZK Q B; have P := Atm Q P; obtain ⟨rfl, aF⟩ := aD; obtain ⟨rfl, aG⟩ := aE; refine mv S rfl fun f S => ov S rfl (ZJ S rfl rfl) fun f S => ov S rfl (ZJ S rfl rfl) fun f S => ?_; obtain ⟨aH, rfl⟩ := Zjb S (j := 0) rfl (Zmb C (Zh r).2.2.2); have ae := Zra B (Zh r).2.1; obtain ⟨a5, aI⟩ : ∃ c, (List.take (Za .u64).n (List.drop ((b).toNat * (Za .u64).n) e)) = c := ⟨_, rfl⟩
      rw [aI] at ae; obtain ⟨rfl, a6⟩ := ae; refine ov S rfl (ZO S rfl rfl ZX (Zh r).1 (ltI C (Zh r).2.2.1)) fun f S => ?_; obtain ⟨w, aJ, S⟩ := ZDb S Zza (off := 0 + (b).toNat * 1) (z := .int .u64 (m.1)) (cs := [.int .u64 (m.1)]) (Zpb rfl) rfl (i := 0) rfl (Zzb S (j := 0) rfl (ltN C (Zh r).2.2.2)) (by first | rfl | simp [ZLa]); have aK : Rep.rels (Za .u64) ad (List.take (0 + (b).toNat * 1) e ++ [Value.int IntKind.u64 (m.1)] ++ List.drop (0 + (b).toNat * 1 + 1) e) (q.set (b).toNat m.1) := Zyb B (Zh r).2.2.2 (show Rep.rel (Za .u64) ad [.int .u64 (m.1)] _ from (Zr aF)) rfl rfl; have aL : k = (q.set (b).toNat m.1).length := Ztb C; refine ZZ wn rfl (aJ rfl rfl) (mw S rfl fun f S => Zl (Zoa (Zc (az _ _ ?_)))); obtain ⟨a7, af, H⟩ := Zb H; refine Zm (mv S rfl fun f S => ov S rfl (Zi S rfl rfl (Zwa af)) fun f S => mw S rfl fun f S => Zl ?_); obtain rfl := Zg H; refine aw _ rfl _ _ ⟨_, _, _, some aH, k, v, (List.take (0 + (b).toNat * 1) e ++ [Value.int IntKind.u64 (m.1)] ++ List.drop (0 + (b).toNat * 1 + 1) e), _, rfl, (leT M Q), (S.fr' rfl), aK, aL, aG, (Z5 af).2⟩
    have H := Zx H D; refine ZD S rfl D (wp_exit (ZP ?_)); obtain rfl := Zg H; have hq := ax _ rfl; subst hq; have H := au; refine ZP (Zna ?_); obtain rfl := Zg H; refine Zc (aq _ _ ⟨_, _, I, k, v, e, _, rfl, (leT (leR _) M), (S.fr' rfl), B, C, ac⟩)
  rintro f w ⟨o, s, t, p, u, L, G, hq, a8, S, aM, aN, aO⟩; subst hq; have H := ap; refine Zc (al _ _ (Zf fun _ aP => ?_)); obtain ⟨a9, aQ, H⟩ := Zb H; refine Zm (mv S rfl fun f S => ?_); obtain ⟨ba, bb, S, aR⟩ := S.pubSlice (i := 0) (A := (Za .u64)) (l := o) (ℓ' := []) rfl rfl aN aM rfl; refine opc S rfl (Zn S [.slice (mkA t) (p) u] ZMd rfl rfl) (Zxd S.vin (show Rep.rel (Zt (Za .u64)) _ [.slice (mkA t) (p) u] o from aR) aQ) ?_; rintro _ bc f w bd ⟨be, rfl, ag⟩ S; obtain ⟨aS, aT, aU, rfl⟩ := Z8 ag; refine mv S rfl fun f S => mw S rfl fun f S => mw S rfl fun f S => Zl (Zc (aP _ _ (wp_ret ?_))); obtain rfl := Zg H; refine Zz S (ZAa rfl (ZG S rfl) (ZG S rfl)) ⟨[.slice aS aT aU], [.int .u64 (s)], rfl, ag, (Zr aO)⟩
theorem Z2l {c : World} {b : Zd} (hv : VIn b c) {d : List Value} {a : Nat} (i : Rep.rel ZC b d a) {e : List Value} {n : Int} (f : Rep.rel (Za .u64) b e n) {z : Nat × Int} (hm : ZVd a n = some z) :
    Ret Tryz.prog 167 #[ZC.val d, (Za .u64).val e] c b (fun y v' => ∃ g h, y = Value.tuple #[ZC.val g, (Za .u64).val h] ∧ ZC.rel v' g z.1 ∧ (Za .u64).rel v' h z.2) :=
  Zlo hv i f (Z5o f.2 hm)
end Go.Eng
