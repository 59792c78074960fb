/- Lemmas towards the statement: the engine of the walks, the functions' models, laws and walks, part 3. Conditions: as each states. -/
import Derived.Lib.AppendStr
import Derived.Lib.Builder
import Derived.Lib.UnsafeStr
import Derived.Test.YtmmnpljhffbjhaaGreatProg
import Derived.Test.YtmmnpljhffbjhaaGreatKpB
set_option linter.all false
set_option maxRecDepth 100000
namespace Go.Eng
noncomputable def ZZg (a : Nat) (b : Nat) : Option (Nat) :=
 bnd (bnd (ZZ (fun s : Nat × Nat => match s with
 | (d, c) =>
 (ifb (decide ((0 : Int) < (((Zi 4294967296 c)).length : Int)))
 (bnd (Zjd d c) fun e =>
 some (.inl ((c, e.2))))
 (some (.inr d)))) Zea ((a, b)))
 (fun (f : Nat) =>
 (some f)))
 (fun (g : Nat) =>
 (some g))
noncomputable def ZHh (s : Bool) (n : Nat) (d : Nat) : Option (Rat) :=
 ifb (((((Zi 4294967296 n)).length : Int)) == ((0 : Int)))
 (bnd (Z1c ([(1 : Int)])) fun b =>
 bnd (Zle false ((0 : Nat)) b) fun c =>
 some c)
 (bnd (rgcF n d) fun a =>
 bnd (Zjd n a) fun e =>
 bnd (Zjd d a) fun f =>
 bnd (Zle s e.1 f.1) fun g =>
 some g)
theorem Zuk {n m : Nat} (h : n ≤ m) (hm : Zhb m) : Zhb n := by
  have := Zcd (B := 4294967296) (by decide) h; unfold Zhb at *; omega
theorem ZFk {n : Nat} (h : Zhb n) : bl n ≤ 2199023255552 := by
  unfold Zhb at h; have h1 := ZRc (B := 4294967296) (by decide) n; have h2 : 4294967296 ^ (Zi 4294967296 n).length = 2 ^ (32 * (Zi 4294967296 n).length) := by rw [Nat.pow_mul]
  rw [h2] at h1; have := Zmc h1; omega
theorem sm32_of {n k : Nat} (h : bl n ≤ 32 * k) (hk : k ≤ 68719476736) : Zhb n := by
  unfold Zhb; refine Nat.le_trans (ZXe (B := 4294967296) (k := k) (by decide) ?_) hk; have h1 := Zne n; have h2 : 4294967296 ^ k = 2 ^ (32 * k) := by rw [Nat.pow_mul]
  rw [h2]; exact Nat.lt_of_lt_of_le h1 (Nat.pow_le_pow_right (by omega) h)
theorem Ztl {n : Nat} (h : bl n ≤ 2199023255552) : Zhb n := sm32_of (k := (bl n + 31) / 32) (by omega) (by omega)
theorem rgcd_eq {n m : Nat} (hn : Zhb n) (hm : Zhb m) : ZZg n m = some (Nat.gcd n m) := by
  unfold ZZg; rw [ZVa]; refine Zbb (fun s : Nat × Nat => Zhb s.1 ∧ Zhb s.2 ∧ Nat.gcd s.1 s.2 = Nat.gcd n m) (fun s => 2 * (bl s.1 + bl s.2) + if s.1 < s.2 then 1 else 0) (fun r : Nat => r = Nat.gcd n m) ⟨hn, hm, rfl⟩
    (ZQa (by have := ZFk hn; have := ZFk hm; simp only; split <;> omega)) ?_ ?_
  · rintro ⟨a, b⟩ ⟨ha, hb, hg⟩; simp only at ha hb hg ⊢; rw [Zmo]; by_cases h0 : b = 0
    · right; subst h0; exact ⟨_, rfl, by rw [← hg, Nat.gcd_zero_right]⟩
    · left; have h1 : Zjd a b = some (a / b, a % b) := by unfold Zjd; rw [if_pos ⟨ha, hb, h0⟩]
      have hlt : a % b < b := Nat.mod_lt _ (by omega); rw [decide_eq_true h0, ZG, h1, Zf]; refine ⟨_, rfl, ⟨hb, Zuk (Nat.le_of_lt hlt) hb, ?_⟩, ?_⟩
      · rw [← hg]; simp only; rw [Nat.gcd_comm b, ← Nat.gcd_rec, Nat.gcd_comm]
      · simp only; rw [if_neg (by omega)]; by_cases hab : a < b
        · rw [if_pos hab, Nat.mod_eq_of_lt hab]; omega
        · have := Znl (a := a) (b := b) (by omega) h0; rw [if_neg hab]; omega
  · rintro r rfl; rw [Zf]
theorem rgcF_eq {n m z : Nat} (h : rgcF n m = some z) : ZZg n m = some z := by
  unfold rgcF at h; split at h
  · rename_i hh; rw [rgcd_eq hh.1 hh.2, h]
  · cases h
theorem Z8m {s : Bool} {n d : Nat} (hn : n ≠ 0) (hd : d ≠ 0) : decide ((mkRat (sgn s n) d).num < 0) = s ∧ (mkRat (sgn s n) d).num.natAbs = n / Nat.gcd n d ∧ (mkRat (sgn s n) d).den = d / Nat.gcd n d := by
  have e0 : (sgn s n).natAbs = n := by unfold sgn; split <;> omega
  have hg : 0 < Nat.gcd n d := Nat.gcd_pos_of_pos_left _ (Nat.pos_of_ne_zero hn); have hnum : (mkRat (sgn s n) d).num = sgn s n / (Nat.gcd n d : Int) := by rw [Rat.num_mkRat, Nat.gcd_comm, e0]; simp [hd, Nat.gcd_comm]
  have hden : (mkRat (sgn s n) d).den = d / Nat.gcd n d := by rw [Rat.den_mkRat, e0]; simp [hd, Nat.gcd_comm]
  obtain ⟨k, hk⟩ := Nat.gcd_dvd_left n d; have hk0 : k ≠ 0 := by rintro rfl; simp at hk; exact hn hk
  have hq : sgn s n / (Nat.gcd n d : Int) = sgn s k := by
    have : sgn s n = sgn s k * (Nat.gcd n d : Int) := by
      unfold sgn
      conv => lhs; rw [hk]
      split <;> grind
    rw [this, Int.mul_ediv_cancel _ (by omega)]
  have hnk : n / Nat.gcd n d = k := Nat.div_eq_of_eq_mul_right hg hk; rw [hnum, hq, hnk]; refine ⟨?_, by unfold sgn; split <;> omega, hden⟩
  cases s
  · apply decide_eq_false; simp only [sgn]; simp
  · apply decide_eq_true; simp only [sgn]; simp; omega
theorem Zzn {s : Bool} {n d : Nat} (hn : n ≠ 0) (hd : d ≠ 0) : Zle s (n / Nat.gcd n d) (d / Nat.gcd n d) = some (mkRat (sgn s n) d) := by
  obtain ⟨h1, h2, h3⟩ := Z8m (s := s) hn hd; have := ZHk (mkRat (sgn s n) d); rw [h1, h2, h3] at this; exact this
theorem ZOo : Zle false 0 1 = some 0 := ZHk 0
theorem Zwn {s : Bool} {n d : Nat} {z : Rat} (h : Zzc s n d = some z) : ZHh s n d = some z := by
  unfold Zzc at h; split at h
  · rename_i hh; obtain ⟨h1, h2, h3⟩ := hh
    cases h
    unfold ZHh; rw [Zxi]; by_cases h0 : n = 0
    · subst h0; rw [decide_eq_true rfl, ZG, Zxk, Zf, ZOo, Zf]; have e : sgn s 0 = 0 := by cases s <;> rfl
      rw [e, Rat.zero_mkRat]
    · have e1 : rgcF n d = some (Nat.gcd n d) := by unfold rgcF; rw [if_pos ⟨h1, h2⟩]
      have hg : Nat.gcd n d ≠ 0 := by have := Nat.gcd_pos_of_pos_left d (Nat.pos_of_ne_zero h0); omega
      have okg : Zhb (Nat.gcd n d) := Zuk (Nat.gcd_le_left _ (Nat.pos_of_ne_zero h0)) h1; have e2 : Zjd n (Nat.gcd n d) = some (n / Nat.gcd n d, n % Nat.gcd n d) := by unfold Zjd; rw [if_pos ⟨h1, okg, hg⟩]
      have e3 : Zjd d (Nat.gcd n d) = some (d / Nat.gcd n d, d % Nat.gcd n d) := by unfold Zjd; rw [if_pos ⟨h2, okg, hg⟩]
      rw [decide_eq_false h0, ZD, e1, Zf, e2, Zf, e3, Zf, Zzn h0 h3, Zf]
  · cases h
noncomputable def Zng (n : Int) : Option (Rat) :=
 ifb (decide (n < (0 : Int)))
 (bnd (Zsd (IntKind.u64.wrap (-(IntKind.u64.wrap n)))) fun a =>
 bnd (Z1c ([(1 : Int)])) fun b =>
 bnd (Zzc true a b) fun c =>
 some c)
 (bnd (Zsd (IntKind.u64.wrap n)) fun d =>
 bnd (Z1c ([(1 : Int)])) fun e =>
 bnd (Zzc false d e) fun f =>
 some f)
noncomputable def ZEi (n : Int) (d : Int) : Option (Rat × Int) :=
 ifb (d == ((0 : Int)))
 (bnd (Z6c ((0 : Int))) fun c =>
 some ((c, (3 : Int))))
 (bnd (Z6c n) fun a =>
 bnd (Z6c d) fun b =>
 bnd (Zzc ((decide (a.num < 0)) != (decide (b.num < 0))) a.num.natAbs b.num.natAbs) fun e =>
 some ((e, (0 : Int))))
noncomputable def ZJi (r : (Int × Int)) : Option (Rat) :=
 ifb (r.2 == ((0 : Int)))
 (bnd (Z6c r.1) fun a =>
 some a)
 (bnd (ZEg r.1 r.2) fun b =>
 some b.1)
noncomputable def Zci (x : Rat) : Option (Int) :=
 bnd (Zeg x) fun a =>
 ifb (a)
 (some ((0 : Int)))
 (ifb (decide (x.num < 0))
 (some ((-1 : Int)))
 (some ((1 : Int))))
theorem ZNf {n : Nat} (h : n ≤ 18446744073709551616) : Zhb n := Ztl (Nat.le_trans (Zmc (show n < 2 ^ 65 by omega)) (by decide))
theorem Z5l (n : Int) : mkRat n 1 = (n : Rat) := by
  have := Rat.mkRat_self (n : Rat)
  simpa using this
theorem Z7n {n : Int} (h1 : -9223372036854775808 ≤ n) (h2 : n ≤ 9223372036854775807) : Zng n = some (n : Rat) := by
  unfold Zng; rw [Zxk]; unfold Zsd Zzc; by_cases h : n < 0
  · obtain ⟨k, rfl⟩ : ∃ k : Nat, n = -(k : Int) := ⟨n.natAbs, by omega⟩; have e1 : IntKind.u64.wrap (-(IntKind.u64.wrap (-(k : Int)))) = (k : Int) := by rw [wrap_u64, wrap_u64]; omega
    rw [decide_eq_true h, ZG, e1, Zf, Zf, Int.toNat_natCast, if_pos ⟨ZNf (by omega), ZNf (by omega), by omega⟩, Zf, Z5l]; rfl
  · obtain ⟨k, rfl⟩ := Int.eq_ofNat_of_zero_le (show 0 ≤ n by omega); rw [decide_eq_false h, ZD, ZDb (by omega), Zf, Zf, Int.toNat_natCast, if_pos ⟨ZNf (by omega), ZNf (by omega), by omega⟩, Zf, Z5l]; rfl
theorem ZRq {n : Int} {z : Rat} (hn : inR .i64 n) (h : Z6c n = some z) : Zng n = some z := by
  have := ZIb.1 hn; unfold Z6c at h; rw [Z7n (by omega) (by omega), h]
theorem Zjo (n m : Int) : sgn (decide (n < 0) != decide (m < 0)) n.natAbs = if m < 0 then -n else n := by
  have := Zqk n m; unfold Zpb at this; exact Option.some.inj this
theorem Zan {n d : Int} {z : Rat × Int} (hn : inR .i64 n) (hd : inR .i64 d) (h : ZEg n d = some z) : ZEi n d = some z := by
  have hn := ZIb.1 hn; have hd := ZIb.1 hd; unfold ZEg at h
  cases h
  unfold ZEi Z6c; by_cases h0 : d = 0
  · subst h0; rfl
  · have e0 : (d == 0) = false := by simp [h0]
    rw [e0, ZD, if_neg h0, Zf, Zf]; unfold Zzc; rw [Rat.num_intCast, Rat.num_intCast, if_pos ⟨ZNf (by omega), ZNf (by omega), by omega⟩, Zf, Zjo, ← ZZi]
theorem rofF_eq {r : Int × Int} {z : Rat} (h : Z8c r = some z) : ZJi r = some z := by
  unfold Z8c at h
  cases h
  unfold ZJi ZNa Z6c ZEg; by_cases h0 : r.2 = 0
  · rw [if_pos h0, h0]; rfl
  · have : (r.2 == 0) = false := by simp [h0]
    rw [this, ZD, Zf, if_neg h0, if_neg h0]
theorem Zjq {x : Rat} {z : Int} (h : ZXd x = some z) : Zci x = some z := by
  unfold ZXd at h
  cases h
  unfold Zci Zeg; rw [Zf]; by_cases h0 : x = 0
  · subst h0; rfl
  · have := Zgk h0; rw [decide_eq_false h0, ZD]; by_cases h1 : x.num < 0
    · rw [decide_eq_true h1, ZG, Int.sign_eq_neg_one_of_neg h1]
    · rw [decide_eq_false h1, ZD, Int.sign_eq_one_of_pos (by omega)]
end Go.Eng
namespace Go.Eng
open Go.RowKit
def Zbl (P : Program) (f : FuncId) (T e : TypeId) : Prop := ∀ (B b : Nat) (bs : List Value) (s : ByteArray) (w : World), Lib.IsBuilder T e B b bs w → bs.length + s.size ≤ 140737488355328 → B ≤ w.heap.size →
  Calls P f #[.pointer (some ⟨b, 0, none⟩), .string s] w fun x w' => x = .returned (.tuple #[.int .i64 s.size, .nilIface]) ∧ (Lib.BuilderAt T e B b (.pointer (some ⟨b, 0, none⟩)) (bs ++ Lib.strCells s) w' ∧ Below B w w')
def Tells (P : Program) (f : FuncId) (T e : TypeId) : Prop := ∀ (B b : Nat) (l : List UInt8) (w : World), Lib.IsBuilder T e B b (Lib.byteCells l) w → B ≤ w.heap.size →
  Calls P f #[.pointer (some ⟨b, 0, none⟩)] w fun x w' => x = .returned (.string ⟨l.toArray⟩) ∧ Below B w w'
structure Bld (T e b : Nat) (w0 : Base) (v : Zd) (m : List UInt8) (w : World) : Prop where
  is : Lib.IsBuilder T e b b (Lib.byteCells m) w
  old : ∀ k o, v k = some o → k < b
  base : w0.wd.heap.size ≤ b
  lt : b ≤ w.heap.size
variable {P : Program} {K : Nat} {w0 : Base} {v0 : Zd} {σ : List (Nat × Value)} {ℓ : List Loc} {v : Zd} {a : Act} {w : World}
variable {ops : Array Oper} {Q : Exit → Act → World → Prop} {rest : List Oper}
theorem St.below {w' : World} {b : Nat} (h : St K w0 v0 σ [] v a w) (x : Below b w w') (hv : ∀ k o, v k = some o → k < b) (hb : w0.wd.heap.size ≤ b) : St K w0 v0 σ [] v a w' :=
  ⟨h.size, h.dfr, h.fr, ⟨x.os.trans h.ext.os, x.tape.trans h.ext.tape, x.output.trans h.ext.output, Nat.le_trans h.ext.size x.size, fun k hk hn => (x.block k (by omega)).trans (h.ext.block k hk hn)⟩,
    ⟨h.vst.le, fun k o e => (x.block k (hv k o e)).trans (h.vst.vin k o e), h.vst.old⟩, fun e he => by simp at he, List.nodup_nil⟩
theorem op_newB {o : Oper} {d T : Nat} (e : Nat) (hS : St K w0 v0 σ ℓ v a w) (hw : Region.wanted o (yielded ops a.tmps) = true) (hd : o.dst = some d) (hK : d < K)
    (hrun : (execOp a.eval o).run P w = .ok (.value (.pointer (some ⟨w.heap.size, 0, none⟩))) (w.alloc (.cells #[.pointer none, .slice none 0 0] T)))
    (h : ∀ b a w, St K w0 v0 ((d, .pointer (some ⟨b, 0, none⟩)) :: σ) [] v a w → Bld T e b w0 v [] w → wpList P ops Q rest a w) : wpList P ops Q (o :: rest) a w :=
  ZYd hw (ZRe hrun (by
    rw [hd]
    have h1 : St K w0 v0 σ [] v a w := hS.drop (List.nil_sublist _)
    have h2 : Ext w (w.alloc (.cells #[.pointer none, .slice none 0 0] T)) := Ext.alloc w _
    exact h w.heap.size _ _ ((h1.step h2 (VStep.ext h1.vin h2)).put _ hK) ⟨Lib.fresh_isBuilder T e w, fun k o hk => h1.vin.lt hk, h1.ext.size, h2.size⟩))
theorem Zrq (l l' : List UInt8) : Lib.byteCells l ++ Lib.strCells (Zsa l') = Lib.byteCells (l ++ l') := by simp [Lib.byteCells, Lib.strCells, Zsa]
theorem Zfo {o : Oper} {d f T e b : Nat} {m s : List UInt8} (hW : Zbl P f T e) (hB : Bld T e b w0 v m w) (hl : (m ++ s).length ≤ 140737488355328) (hS : St K w0 v0 σ [] v a w) (hw : Region.wanted o (yielded ops a.tmps) = true) (hd : o.dst = some d) (hK : d < K)
    (hrun : (execOp a.eval o).run P w = .ok (.enter f #[.pointer (some ⟨b, 0, none⟩), .string (Zsa s)]) w)
    (h : ∀ a w, St K w0 v0 ((d, .tuple #[.int .i64 s.length, .nilIface]) :: σ) [] v a w → Bld T e b w0 v (m ++ s) w → wpList P ops Q rest a w) : wpList P ops Q (o :: rest) a w := by
  have hc := hW b b (Lib.byteCells m) (Zsa s) w hB.is (by rw [Lib.byteCells_length, Zwe, ← List.length_append]; exact hl) hB.lt; refine ZYd hw (Z9f hrun (Calls.mono hc fun x w' ⟨e1, e2, e3⟩ => ⟨_, e1, ?_⟩)); rw [hd]; rw [Zwe] at *; rw [Zrq] at e2; exact h _ _ ((hS.below e3 hB.old hB.base).put _ hK) ⟨.inr e2, hB.old, hB.base, Nat.le_trans hB.lt e3.size⟩
theorem op_tell {o : Oper} {d f T e b : Nat} {m : List UInt8} (hT : Tells P f T e) (hB : Bld T e b w0 v m w) (hS : St K w0 v0 σ [] v a w) (hw : Region.wanted o (yielded ops a.tmps) = true) (hd : o.dst = some d) (hK : d < K)
    (hrun : (execOp a.eval o).run P w = .ok (.enter f #[.pointer (some ⟨b, 0, none⟩)]) w)
    (h : ∀ a w, St K w0 v0 ((d, .string (Zsa m)) :: σ) [] v a w → wpList P ops Q rest a w) : wpList P ops Q (o :: rest) a w := by
  have hc := hT b b m w hB.is hB.lt; refine ZYd hw (Z9f hrun (Calls.mono hc fun x w' ⟨e1, e3⟩ => ⟨_, e1, ?_⟩)); rw [hd]; exact h _ _ ((hS.below e3 hB.old hB.base).put _ hK)
def Z3g (l : List UInt8) : Option Unit := if l.length ≤ 140737488355328 then some () else none
theorem ZJq {l : List UInt8} {u : Unit} (h : Z3g l = some u) : l.length ≤ 140737488355328 := by
  unfold Z3g at h; split at h
  · assumption
  · cases h
theorem Z5m {q : Option Nat} {b o : Nat} (h : mkA q = some ⟨b, o, none⟩) : q = some b ∧ o = 0 := by
  cases q with
  | none => cases h
  | some c => cases h; exact ⟨rfl, rfl⟩
noncomputable def ZJg (a : Nat) : Option ((List UInt8)) :=
 bnd (bnd (ZZ (fun s : Nat × (List (List UInt8)) => match s with
 | (h, c) =>
 (ifb (decide ((0 : Int) < (((Zi 18446744073709551616 h)).length : Int)))
 (bnd (ZSd h ((10000000000000000000 : Int))) fun d =>
 bnd (ZFf d.2) fun b =>
 bnd (ifb (decide ((0 : Int) < (((Zi 18446744073709551616 d.1)).length : Int)))
 (bnd (chk .i64 (((19 : Int)) - ((b.length : Int)))) fun m =>
 bnd (ZWf (([48] : List UInt8)) m) fun i =>
 bnd (Zdd (i ++ b)) fun r =>
 some ((i ++ b)))
 (some b))
 (fun (j : (List UInt8)) =>
 (bnd (ZZa 16 (c ++ [j])) fun t =>
 some (.inl ((d.1, (c ++ [j])))))))
 (some (.inr c)))) Zea ((a, ([] : (List (List UInt8))))))
 (fun (n : (List (List UInt8))) =>
 (some n)))
 (fun (e : (List (List UInt8))) =>
 (ifb (((e.length : Int)) == ((0 : Int)))
 (some (([48] : List UInt8)))
 (bnd (chk .i64 (((e.length : Int)) - ((1 : Int)))) fun o =>
 bnd (bnd (ZZ (fun s : (List UInt8) × Int => match s with
 | (f, g) =>
 (ifb (decide ((0 : Int) ≤ g))
 (bnd (idx e g) fun k =>
 bnd (Z3g (f ++ k)) fun u =>
 bnd (chk .i64 (g - ((1 : Int)))) fun p =>
 some (.inl (((f ++ k), p))))
 (some (.inr f)))) Zea ((([] : List UInt8), o)))
 (fun (q : (List UInt8)) =>
 (some q)))
 (fun (l : (List UInt8)) =>
 (bnd (Zdd l) fun v =>
 some l)))))
noncomputable def ZSi (x : Rat) : Option ((List UInt8)) :=
 bnd (Zof ((x.num).natAbs)) fun a =>
 bnd (ifb (decide (x.num < 0))
 (bnd (Zdd ((([45] : List UInt8)) ++ a)) fun e =>
 some (((([45] : List UInt8)) ++ a)))
 (some a))
 (fun (b : (List UInt8)) =>
 (bnd (ifb (decide ((0 : Int) < (((Zi 18446744073709551616 ((Z3a x.den)))).length : Int)))
 (bnd (Zof ((Z3a x.den))) fun c =>
 bnd (Zdd ((([47] : List UInt8)) ++ c)) fun f =>
 bnd (Zdd (b ++ (((([47] : List UInt8)) ++ c)))) fun g =>
 some ((b ++ (((([47] : List UInt8)) ++ c)))))
 (some b))
 (fun (d : (List UInt8)) =>
 (some d))))
theorem Zvl (n : Nat) : (ZRa n).length ≤ bl n := by
  induction n using Nat.strongRecOn with
  | ind n ih =>
    by_cases h : n = 0
    · subst h; rw [Zod]; simp
    · rw [ZUe h, List.length_append]; have h1 := ih (n / 10) (by omega); have h2 : bl (n / 10) + 1 ≤ bl n := by
        rw [Zok h]; exact Nat.add_le_add_right (Zgd (by omega)) 1
      simp only [List.length_cons, List.length_nil]; omega
theorem ZCp {n k : Nat} (h : n < 10 ^ k) : (ZRa n).length ≤ k := by
  induction k generalizing n with
  | zero => simp at h; subst h; rw [Zod]; simp
  | succ k ih =>
    by_cases h0 : n = 0
    · subst h0; rw [Zod]; simp
    · rw [ZUe h0, List.length_append]; have := ih (n := n / 10) (by rw [Nat.pow_succ] at h; omega); simp only [List.length_cons, List.length_nil]; omega
theorem Zpo {q : Nat} (hq : q ≠ 0) : ∀ (k r : Nat), r < 10 ^ k → ZRa (q * 10 ^ k + r) = ZRa q ++ (List.replicate (k - (ZRa r).length) 48 ++ ZRa r) := by
  intro k
  induction k with
  | zero => intro r h; simp at h; subst h; rw [Zod]; simp
  | succ k ih =>
    intro r h; rw [Nat.pow_succ] at h; have hn : q * 10 ^ (k + 1) + r ≠ 0 := by
      have : 0 < q * 10 ^ (k + 1) := Nat.mul_pos (by omega) (Nat.pow_pos (by omega)); omega
    have e1 : (q * 10 ^ (k + 1) + r) / 10 = q * 10 ^ k + r / 10 := by rw [Nat.pow_succ, ← Nat.mul_assoc]; generalize q * 10 ^ k = p; omega
    have e2 : (q * 10 ^ (k + 1) + r) % 10 = r % 10 := by rw [Nat.pow_succ, ← Nat.mul_assoc]; generalize q * 10 ^ k = p; omega
    rw [ZUe hn, e1, e2, ih (r / 10) (by omega)]; by_cases h0 : r = 0
    · subst h0; simp only [Nat.zero_div, Zod, List.length_nil, Nat.sub_zero, List.append_nil, List.append_assoc]; congr 1; rw [List.replicate_succ']; rfl
    · rw [ZUe h0, List.length_append]; simp only [List.length_cons, List.length_nil, List.append_assoc]; rw [show k + 1 - ((ZRa (r / 10)).length + (0 + 1)) = k - (ZRa (r / 10)).length by omega]
theorem ZLg {l : List UInt8} (h : l.length ≤ 140737488355328) : Zdd l = some () := by unfold Zdd; rw [if_pos (by unfold maxLen; omega)]
theorem ZAq {n : Nat} : ZRa n = [] ↔ n = 0 := by
  constructor
  · intro h; rcases Nat.eq_zero_or_pos n with h0 | h0
    · exact h0
    · rw [ZUe (by omega)] at h; simp at h
  · rintro rfl; exact Zod
theorem Zxn (r : List (List UInt8)) (j : Nat) : ((r.drop j).reverse.flatten).length ≤ r.reverse.flatten.length := by
  have h : r.reverse.flatten = (r.drop j).reverse.flatten ++ (r.take j).reverse.flatten := by
    rw [← List.flatten_append, ← List.reverse_append, List.take_append_drop]
  rw [h, List.length_append]; omega
theorem ZRk (c : UInt8) : ∀ k : Nat, (List.replicate k [c]).flatten = List.replicate k c
  | 0 => rfl
  | k + 1 => by rw [List.replicate_succ, List.flatten_cons, ZRk c k, List.replicate_succ]; rfl
theorem text_eq {a : Nat} (ha : okN a) : ZJg a = some (ZUc a) := by
  unfold ZJg; have hbl := Z7j ha; have hda := Zvl a; rw [ZVa]; refine Zbb (fun s : Nat × List (List UInt8) => okN s.1 ∧ ZRa s.1 ++ s.2.reverse.flatten = ZRa a ∧ bl s.1 + s.2.length ≤ bl a) (fun s => bl s.1) (fun r : List (List UInt8) => r.reverse.flatten = ZRa a ∧ r.length ≤ bl a ∧ (a ≠ 0 → r ≠ [])) ⟨ha, by simp, by simp⟩ (ZQa (by simp only; omega)) ?_ ?_
  · rintro ⟨x, s⟩ ⟨hx, he, hl⟩; simp only at hx he hl ⊢; by_cases h0 : x = 0
    · right; subst h0; rw [ZXa, show decide ((0 : Int) < (([] : List Int).length : Int)) = false from rfl, ZD]; rw [Zod, List.nil_append] at he; refine ⟨_, rfl, he, by omega, fun h1 h2 => ?_⟩; subst h2; exact h1 (ZAq.1 he.symm)
    · left; have hpos := List.length_pos_iff.2 ((ZTc (n := x) (B := 18446744073709551616) (by decide)).2 h0); have e1 : ZSd x (10000000000000000000 : Int) = some (x / 10000000000000000000, ((x % 10000000000000000000 : Nat) : Int)) := by
        unfold ZSd; rw [if_pos ⟨hx, by omega⟩]; rfl
      have e2 : ZFf ((x % 10000000000000000000 : Nat) : Int) = some (ZRa (x % 10000000000000000000)) := by unfold ZFf; rw [Int.toNat_natCast]
      rw [decide_eq_true (show (0 : Int) < ((Zi 18446744073709551616 x).length : Int) by omega), ZG, e1, Zf]; simp only; rw [e2, Zf]; have hr : (ZRa (x % 10000000000000000000)).length ≤ 19 := ZCp (k := 19) (Nat.mod_lt _ (by decide)); have hb2 : bl (x / 10000000000000000000) + 1 ≤ bl x := by
        rw [Zok h0]; exact Nat.add_le_add_right (Zgd (by omega)) 1
      have hsplit : ∃ p : List UInt8, ifb (decide ((0 : Int) < ((Zi 18446744073709551616 (x / 10000000000000000000)).length : Int))) (bnd (chk .i64 (19 - ((ZRa (x % 10000000000000000000)).length : Int))) fun y218 => bnd (ZWf [48] y218) fun y220 => bnd (Zdd (y220 ++ ZRa (x % 10000000000000000000))) fun y227 => some (y220 ++ ZRa (x % 10000000000000000000))) (some (ZRa (x % 10000000000000000000))) = some p ∧ ZRa (x / 10000000000000000000) ++ p = ZRa x := by
        by_cases hq : x / 10000000000000000000 = 0
        · refine ⟨_, by rw [hq, ZXa]; rfl, ?_⟩; rw [hq, Zod, List.nil_append]; congr 1; omega
        · have hpos := List.length_pos_iff.2 ((ZTc (n := x / 10000000000000000000) (B := 18446744073709551616) (by decide)).2 hq); obtain ⟨k, hk⟩ : ∃ k, k = 19 - (ZRa (x % 10000000000000000000)).length := ⟨_, rfl⟩; have e3 : chk .i64 (19 - ((ZRa (x % 10000000000000000000)).length : Int)) = some (k : Int) := by rw [show (19 - ((ZRa (x % 10000000000000000000)).length : Int)) = (k : Int) by omega, Zfb (by omega)]
          have e4 : ZWf [48] (k : Int) = some (List.replicate k 48) := by
            unfold ZWf; rw [if_pos ⟨by omega, by simp; omega⟩, Int.toNat_natCast, ZRk]
          refine ⟨List.replicate k 48 ++ ZRa (x % 10000000000000000000), ?_, ?_⟩
          · rw [decide_eq_true (by omega), ZG, e3, Zf, e4, Zf, ZLg (by simp; omega), Zf]
          · have := Zpo hq 19 (x % 10000000000000000000) (Nat.mod_lt _ (by decide)); rw [show x / 10000000000000000000 * 10 ^ 19 + x % 10000000000000000000 = x by omega] at this; rw [this, hk]
      obtain ⟨p, ep, hp⟩ := hsplit; rw [ep, Zf, Z8d (by simp; omega), Zf]; refine ⟨_, rfl, ⟨Zfi (Nat.div_le_self _ _) hx, ?_, by simp; omega⟩, by simp only; omega⟩; simp only [List.reverse_append, List.reverse_cons, List.reverse_nil, List.nil_append, List.singleton_append, List.flatten_cons]; rw [← List.append_assoc, hp, he]
  · rintro r ⟨hr, hl, hne⟩; rw [Zf]; by_cases h0 : a = 0
    · subst h0; have : r = [] := by
        have := hl; simp [bl] at this; exact this
      subst this; rfl
    · have hne := hne h0; have hpos : 0 < r.length := List.length_pos_iff.2 hne; have e1 : ((r.length : Int) == 0) = false := beq_false_of_ne (by omega); rw [e1, ZD, Zha (by omega) (by omega), Zf, ZVa]; unfold ZUc; rw [if_neg h0]; refine Zbb (fun s : List UInt8 × Int => ∃ k : Nat, s.2 = (k : Int) - 1 ∧ k ≤ r.length ∧ s.1 = (r.drop k).reverse.flatten) (fun s => (s.2 + 1).toNat) (fun t : List UInt8 => t = ZRa a) ⟨r.length, rfl, by omega, by simp⟩ (ZQa (by simp only; omega)) ?_ ?_
      · rintro ⟨s, i⟩ ⟨k, hi, hk, hs⟩; simp only at hi hs ⊢; subst hi hs; by_cases hk0 : k = 0
        · right; subst hk0; rw [show decide ((0 : Int) ≤ ((0 : Nat) : Int) - 1) = false from rfl, ZD]; exact ⟨_, rfl, by rw [List.drop_zero]; exact hr⟩
        · left; obtain ⟨j, rfl⟩ : ∃ j, k = j + 1 := ⟨k - 1, by omega⟩; have ej : ((j + 1 : Nat) : Int) - 1 = (j : Int) := by omega
          have hj : j < r.length := by omega
          have hnew : (r.drop (j + 1)).reverse.flatten ++ r[j] = (r.drop j).reverse.flatten := by
            rw [List.drop_eq_getElem_cons hj, List.reverse_cons, List.flatten_append]; simp
          have hlen : ((r.drop j).reverse.flatten).length ≤ r.reverse.flatten.length := Zxn r j; rw [hr] at hlen; have e2 : Z3g ((r.drop (j + 1)).reverse.flatten ++ r[j]) = some () := by unfold Z3g; rw [if_pos (by rw [hnew]; omega)]
          rw [ej, decide_eq_true (show (0 : Int) ≤ (j : Int) by omega), ZG, Z6 hj, Zf, e2, Zf, Zha (by omega) (by omega), Zf]; exact ⟨_, rfl, ⟨j, rfl, by omega, hnew⟩, by simp⟩
      · rintro t rfl; rw [Zf, ZLg (by omega), Zf]
theorem Z6m {n : Nat} {z : List UInt8} (h : Zof n = some z) : ZJg n = some z := by
  unfold Zof at h; split at h
  · rename_i hh; rw [text_eq hh, h]
  · cases h
theorem Z8l {n : Nat} (h : bl n ≤ 4398046511104) : (ZUc n).length ≤ 4398046511104 := by
  unfold ZUc; split
  · simp
  · have := Zvl n; omega
theorem Ztp {x : Rat} {z : List UInt8} (h : Z1e x = some z) : ZSi x = some z := by
  unfold Z1e at h; split at h
  · rename_i hh; obtain ⟨h1, h2⟩ := hh
    cases h
    unfold ZSi Zof; have l1 := Z8l (n := x.num.natAbs) (by omega); have l2 := Z8l (n := x.den) (by omega); rw [if_pos (Z2a (by omega)), Zf]; have e1 : ifb (decide (x.num < 0)) (bnd (Zdd ([45] ++ ZUc x.num.natAbs)) fun y80 => some (([45] : List UInt8) ++ ZUc x.num.natAbs)) (some (ZUc x.num.natAbs)) = some ((if x.num < 0 then [45] else []) ++ ZUc x.num.natAbs) := by
      by_cases h : x.num < 0
      · rw [decide_eq_true h, ZG, ZLg (by simp; omega), Zf, if_pos h]
      · rw [decide_eq_false h, ZD, if_neg h]; rfl
    rw [e1, Zf]; unfold txtQ; have l3 : ((if x.num < 0 then [45] else []) ++ ZUc x.num.natAbs : List UInt8).length ≤ 4398046511105 := by
      rw [List.length_append]; split <;> simp <;> omega
    generalize ((if x.num < 0 then [45] else []) ++ ZUc x.num.natAbs : List UInt8) = s at *; by_cases hd : x.den = 1
    · rw [hd]; rw [show Z3a 1 = 0 from rfl, ZXa]; simp [ifb, bnd]
    · have e2 : Z3a x.den = x.den := by unfold Z3a; rw [if_neg hd]
      have hpos := List.length_pos_iff.2 ((ZTc (n := x.den) (B := 18446744073709551616) (by decide)).2 x.den_nz); rw [e2, decide_eq_true (by omega), ZG, if_pos (Z2a (by omega)), Zf, ZLg (by simp; omega), Zf, ZLg (by simp; omega), Zf, Zf, if_neg hd]; rfl
  · cases h
noncomputable def ZVh (x : Rat) : Option (Bool) :=
 bnd (Znd x) fun a =>
 some (decide (a ≤ (0 : Int)))
noncomputable def ZWi (l : (List Rat)) (g : Unit) : Option (Int) :=
 bnd (bnd (ZZ (fun s : Int => match s with
 | a =>
 (ifb (decide (a < (l.length : Int)))
 (bnd (idx l a) fun b =>
 bnd (ZVh b) fun c =>
 ifb (c)
 (some (.inr ((.inl a))))
 (bnd (chk .i64 (a + ((1 : Int)))) fun d =>
 some (.inl d)))
 (some (.inr ((.inr (()))))))) Zea ((0 : Int)))
 (fun (p : (Int) ⊕ (Unit)) => match p with
 | .inl e =>
 (some ((.inr e)))
 | .inr (()) =>
 (some ((.inl (()))))))
 (fun (p : (Unit) ⊕ (Int)) => match p with
 | .inl (()) =>
 (some ((-1 : Int)))
 | .inr f =>
 (some f))
noncomputable def Z8g (l : (List Rat)) (g : Unit) : Option (Bool) :=
 bnd (ZWi l (())) fun a =>
 some (decide ((0 : Int) ≤ a))
noncomputable def Zue (l : (List Rat)) : Option (Bool) :=
 bnd (Z8g l (())) fun a =>
 some (!(a))
noncomputable def ZYf (t : (Rat × (List Rat))) : Option (Int) :=
 bnd (Zue ([t.1])) fun b =>
 ifb (!(b))
 (some ((1 : Int)))
 (bnd (ifb (((t.2.length : Int)) == ((0 : Int)))
 (some true)
 (some (decide ((16 : Int) ≤ (t.2.length : Int)))))
 (fun (c : Bool) =>
 (ifb (c)
 (some ((4 : Int)))
 (bnd (bnd (ZZ (fun s : Int => match s with
 | a =>
 (ifb (decide (a < (t.2.length : Int)))
 (bnd (idx t.2 a) fun d =>
 bnd (ifb (decide ((0 : Int) < a))
 (bnd (chk .i64 (a - ((1 : Int)))) fun e =>
 bnd (idx t.2 e) fun f =>
 bnd (ZDc d f) fun g =>
 some (decide (g ≤ (0 : Int))))
 (some false))
 (fun (h : Bool) =>
 (ifb (h)
 (some (.inr ((.inl ((7 : Int))))))
 (bnd (chk .i64 (a + ((1 : Int)))) fun i =>
 some (.inl i)))))
 (some (.inr ((.inr (()))))))) Zea ((0 : Int)))
 (fun (p : (Int) ⊕ (Unit)) => match p with
 | .inl j =>
 (some ((.inr j)))
 | .inr (()) =>
 (some ((.inl (()))))))
 (fun (p : (Unit) ⊕ (Int)) => match p with
 | .inl (()) =>
 (some ((0 : Int)))
 | .inr k =>
 (some k))))))
noncomputable def Zhg (y : Rat) (r : Rat) : Option (Bool) :=
 bnd (ZDc y r) fun a =>
 some (decide ((0 : Int) ≤ a))
noncomputable def Zvi (l : (List Rat)) (g : Rat) : Option (Int) :=
 bnd (bnd (ZZ (fun s : Int => match s with
 | a =>
 (ifb (decide (a < (l.length : Int)))
 (bnd (idx l a) fun b =>
 bnd (Zhg b g) fun c =>
 ifb (c)
 (some (.inr ((.inl a))))
 (bnd (chk .i64 (a + ((1 : Int)))) fun d =>
 some (.inl d)))
 (some (.inr ((.inr (()))))))) Zea ((0 : Int)))
 (fun (p : (Int) ⊕ (Unit)) => match p with
 | .inl e =>
 (some ((.inr e)))
 | .inr (()) =>
 (some ((.inl (()))))))
 (fun (p : (Unit) ⊕ (Int)) => match p with
 | .inl (()) =>
 (some ((-1 : Int)))
 | .inr f =>
 (some f))
noncomputable def ZUf (t : (Rat × (List Rat))) (x : Rat) : Option (Int) :=
 bnd (ZZf x t.1) fun b =>
 bnd (Zvi t.2 b.1) fun a =>
 ifb (decide (a < (0 : Int)))
 (some ((t.2.length : Int)))
 (some a)
noncomputable def ZLf (t : (Rat × (List Rat))) (x : Rat) : Option (Int × Int) :=
 bnd (ZYf ((t.1, t.2))) fun a =>
 ifb (a != ((0 : Int)))
 (some (((0 : Int), a)))
 (bnd (ZUf ((t.1, t.2)) x) fun b =>
 some ((b, (0 : Int))))
noncomputable def ZKj (d : ((Int × Int) × (Int × Int) × (Int × Int))) : Option ((Rat × Rat × Rat) × (Rat × Rat × Rat)) :=
 bnd (ZJb ((d.1.1, d.1.2))) fun a =>
 bnd (ZJb ((d.2.1.1, d.2.1.2))) fun b =>
 bnd (ZJb ((d.2.2.1, d.2.2.2))) fun c =>
 bnd (Z8c ((d.1.1, d.1.2))) fun e =>
 bnd (Z8c ((d.2.1.1, d.2.1.2))) fun f =>
 bnd (Z8c ((d.2.2.1, d.2.2.2))) fun g =>
 some (((a, b, c), (e, f, g)))
noncomputable def Zhh (x : Rat) (y : Rat) : Option (Rat) :=
 bnd (Zye x y) fun a =>
 some a.1
noncomputable def ZCc (n : Int) : Option (Rat) :=
 bnd (Z4b n) fun a =>
 some a
noncomputable def Znk (d : (Rat × Rat × Rat)) : Option (Bool) :=
 bnd (Zue ([d.1, d.2.1, d.2.2])) fun a =>
 some a
noncomputable def ZQj (d : (Rat × Rat × Rat)) (x : Rat) (y : Rat) : Option (Rat × Int) :=
 bnd (Znk ((d.1, d.2.1, d.2.2))) fun a =>
 ifb (!(a))
 (some (((0 : Rat), (1 : Int))))
 (bnd (Zrd x y) fun b =>
 bnd (ZCc ((1 : Int))) fun c =>
 bnd (Zhh d.2.1 d.1) fun e =>
 bnd (Zuc c e) fun f =>
 bnd (Z9c b f) fun g =>
 some ((g, (0 : Int))))
noncomputable def ZHi (i : Int) (k : Int) : Option (Rat) :=
 ifb (i == k)
 (bnd (ZCc ((1 : Int))) fun a =>
 some a)
 (some ((0 : Rat)))
noncomputable def Zjk (t : (List (List Int))) (n : Int) (g : Unit) : Option (Rat × Rat) :=
 bnd (bnd (mk 8 ((t.length : Int)) ((t.length : Int))) fun an =>
 bnd (mk 8 ((t.length : Int)) ((t.length : Int))) fun ao =>
 some (((List.replicate ((t.length : Int)).toNat ((0 : Int))), (List.replicate ((t.length : Int)).toNat ((0 : Int))))))
 (fun (p : (List Int) × (List Int)) => match p with
 | (u, v) =>
 (bnd (bnd (ZZ (fun s : (List Int) × (List Int) × Int => match s with
 | (h, i, a) =>
 (ifb (decide (a < (t.length : Int)))
 (bnd (idx t a) fun j =>
 bnd (bnd (ZZ (fun s : (List Int) × (List Int) × Int => match s with
 | (e, f, b) =>
 (ifb (decide (b < (j.length : Int)))
 (bnd (idx j b) fun k =>
 bnd (idx e a) fun w =>
 bnd (chk .i64 (w + k)) fun x =>
 bnd (idx e a) fun ap =>
 bnd (idx f b) fun y =>
 bnd (chk .i64 (y + k)) fun z =>
 bnd (idx f b) fun aq =>
 bnd (chk .i64 (b + ((1 : Int)))) fun A =>
 some (.inl (((e.set (a).toNat x), (f.set (b).toNat z), A))))
 (some (.inr ((e, f)))))) Zea ((h, i, (0 : Int))))
 (fun (p : (List Int) × (List Int)) => match p with
 | (B, C) =>
 (some ((B, C)))))
 (fun (p : (List Int) × (List Int)) => match p with
 | (D, E) =>
 (bnd (chk .i64 (a + ((1 : Int)))) fun F =>
 some (.inl ((D, E, F))))))
 (some (.inr ((h, i)))))) Zea ((u, v, (0 : Int))))
 (fun (p : (List Int) × (List Int)) => match p with
 | (G, H) =>
 (some ((G, H)))))
 (fun (p : (List Int) × (List Int)) => match p with
 | (I, J) =>
 (bnd (bnd (ZZ (fun s : Rat × Rat × Int => match s with
 | (l, m, c) =>
 (ifb (decide (c < (t.length : Int)))
 (bnd (idx t c) fun o =>
 bnd (bnd (ZZ (fun s : Rat × Rat × Int => match s with
 | (q, r, d) =>
 (ifb (decide (d < (o.length : Int)))
 (bnd (idx o d) fun K =>
 bnd (ZHi c d) fun L =>
 bnd (ZCc K) fun M =>
 bnd (Z9c L M) fun N =>
 bnd (Zuc q N) fun O =>
 bnd (ZHi c d) fun P =>
 bnd (idx I c) fun Q =>
 bnd (ZCc Q) fun R =>
 bnd (Z9c P R) fun S =>
 bnd (idx J d) fun T =>
 bnd (ZCc T) fun U =>
 bnd (Z9c S U) fun V =>
 bnd (Zuc r V) fun W =>
 bnd (chk .i64 (d + ((1 : Int)))) fun X =>
 some (.inl ((O, W, X))))
 (some (.inr ((q, r)))))) Zea ((l, m, (0 : Int))))
 (fun (p : Rat × Rat) => match p with
 | (Y, Z) =>
 (some ((Y, Z)))))
 (fun (p : Rat × Rat) => match p with
 | (aa, ab) =>
 (bnd (chk .i64 (c + ((1 : Int)))) fun ac =>
 some (.inl ((aa, ab, ac))))))
 (some (.inr ((l, m)))))) Zea (((0 : Rat), (0 : Rat), (0 : Int))))
 (fun (p : Rat × Rat) => match p with
 | (ad, ae) =>
 (some ((ad, ae)))))
 (fun (p : Rat × Rat) => match p with
 | (af, ag) =>
 (bnd (ZCc n) fun ah =>
 bnd (Zhh af ah) fun ai =>
 bnd (ZCc n) fun aj =>
 bnd (ZCc n) fun ak =>
 bnd (Z9c aj ak) fun al =>
 bnd (Zhh ag al) fun am =>
 some ((ai, am))))))))
noncomputable def Zik (r : (List Int)) (t : (List (List Int))) : Option (Bool) :=
 some (((r.length : Int)) != ((t.length : Int)))
noncomputable def Z5j (l : (List (List Int))) (g : (List (List Int))) : Option (Int) :=
 bnd (bnd (ZZ (fun s : Int => match s with
 | a =>
 (ifb (decide (a < (l.length : Int)))
 (bnd (idx l a) fun b =>
 bnd (Zik b g) fun c =>
 ifb (c)
 (some (.inr ((.inl a))))
 (bnd (chk .i64 (a + ((1 : Int)))) fun d =>
 some (.inl d)))
 (some (.inr ((.inr (()))))))) Zea ((0 : Int)))
 (fun (p : (Int) ⊕ (Unit)) => match p with
 | .inl e =>
 (some ((.inr e)))
 | .inr (()) =>
 (some ((.inl (()))))))
 (fun (p : (Unit) ⊕ (Int)) => match p with
 | .inl (()) =>
 (some ((-1 : Int)))
 | .inr f =>
 (some f))
noncomputable def ZRj (l : (List (List Int))) (g : (List (List Int))) : Option (Bool) :=
 bnd (Z5j l g) fun a =>
 some (decide ((0 : Int) ≤ a))
noncomputable def ZPj (t : (List (List Int))) : Option (Int × Int) :=
 bnd (ifb (((t.length : Int)) == ((0 : Int)))
 (some ((t, true)))
 (ifb (decide ((8 : Int) < (t.length : Int)))
 (some ((t, true)))
 (bnd (ZRj t t) fun i =>
 some ((t, i)))))
 (fun (p : (List (List Int)) × Bool) => match p with
 | (d, j) =>
 (ifb (j)
 (some (((0 : Int), (4 : Int))))
 (bnd (bnd (ZZ (fun s : Int × Int => match s with
 | (e, a) =>
 (ifb (decide (a < (d.length : Int)))
 (bnd (idx d a) fun f =>
 bnd (bnd (ZZ (fun s : Int × Int => match s with
 | (g, b) =>
 (ifb (decide (b < (f.length : Int)))
 (bnd (idx f b) fun c =>
 bnd (ifb (decide (c < (0 : Int)))
 (some true)
 (some (decide ((1000000 : Int) < c))))
 (fun (k : Bool) =>
 (ifb (k)
 (some (.inr ((.inl (((0 : Int), (1 : Int)))))))
 (bnd (chk .i64 (g + c)) fun l =>
 bnd (chk .i64 (b + ((1 : Int)))) fun m =>
 some (.inl ((l, m)))))))
 (some (.inr ((.inr g)))))) Zea ((e, (0 : Int))))
 (fun (p : (Int × Int) ⊕ (Int)) => match p with
 | .inl ((n, o)) =>
 (some ((.inr ((n, o)))))
 | .inr q =>
 (some ((.inl q)))))
 (fun (p : (Int) ⊕ (Int × Int)) => match p with
 | .inl r =>
 (bnd (chk .i64 (a + ((1 : Int)))) fun u =>
 some (.inl ((r, u))))
 | .inr ((v, w)) =>
 (some (.inr ((.inl ((v, w))))))))
 (some (.inr ((.inr e)))))) Zea (((0 : Int), (0 : Int))))
 (fun (p : (Int × Int) ⊕ (Int)) => match p with
 | .inl ((x, y)) =>
 (some ((.inr ((x, y)))))
 | .inr z =>
 (some ((.inl z)))))
 (fun (p : (Int) ⊕ (Int × Int)) => match p with
 | .inl h =>
 (ifb (h == ((0 : Int)))
 (some (((0 : Int), (3 : Int))))
 (some ((h, (0 : Int)))))
 | .inr ((A, B)) =>
 (some ((A, B)))))))
noncomputable def Z0j (t : (List (List Int))) (g : Unit) : Option (Rat × Int) :=
 bnd (ZPj t) fun a =>
 ifb (a.2 != ((0 : Int)))
 (some (((0 : Rat), a.2)))
 (bnd (Zjk t a.1 (())) fun b =>
 bnd (bnd (Zrd b.1 b.2) fun d =>
 bnd (ZCc ((1 : Int))) fun e =>
 bnd (Zrd e b.2) fun f =>
 bnd (Zye d f) fun c =>
 some ((c.2, c.1)))
 (fun (p : Int × Rat) => match p with
 | (h, i) =>
 (ifb (h != ((0 : Int)))
 (some (((0 : Rat), (5 : Int))))
 (some ((i, (0 : Int)))))))
noncomputable def Zrj (t : (List (List Int))) : Option (Rat × Int) :=
 bnd (Z0j t (())) fun a =>
 some ((a.1, a.2))
noncomputable def Zah (l : (List (Int × Int))) : Option ((List Rat) × (List Rat)) :=
 bnd (bnd (ZZ (fun s : (List Rat) × (List Rat) × Int => match s with
 | (b, c, d) =>
 (ifb (decide (d < (l.length : Int)))
 (bnd (idx l d) fun a =>
 bnd (ZJb ((a.1, a.2))) fun e =>
 bnd (ZZa 56 (b ++ [e])) fun m =>
 bnd (Z8c ((a.1, a.2))) fun f =>
 bnd (ZZa 56 (c ++ [f])) fun n =>
 bnd (chk .i64 (d + ((1 : Int)))) fun g =>
 some (.inl (((b ++ [e]), (c ++ [f]), g))))
 (some (.inr ((b, c)))))) Zea ((([] : (List Rat)), ([] : (List Rat)), (0 : Int))))
 (fun (p : (List Rat) × (List Rat)) => match p with
 | (h, i) =>
 (some ((h, i)))))
 (fun (p : (List Rat) × (List Rat)) => match p with
 | (j, k) =>
 (some ((j, k))))
noncomputable def Zwf (step : (Int × Int)) (limits : (List (Int × Int))) : Option ((Rat × (List Rat)) × (Rat × (List Rat))) :=
 bnd (Zah limits) fun a =>
 bnd (ZJb ((step.1, step.2))) fun b =>
 bnd (Z8c ((step.1, step.2))) fun c =>
 some (((b, a.1), (c, a.2)))
noncomputable def Z2d  : Option (Bool) :=
 bnd (ZKj ((((2 : Int), (0 : Int)), ((1 : Int), (2 : Int)), ((4000 : Int), (0 : Int))))) fun a =>
 bnd (bnd (Z4b ((48 : Int))) fun f =>
 bnd (Z4b ((8 : Int))) fun g =>
 bnd (ZQj ((a.1.1, a.1.2.1, a.1.2.2)) f g) fun b =>
 some ((b.1, b.2)))
 (fun (p : Rat × Int) => match p with
 | (h, i) =>
 (bnd (Zrj ([[(20 : Int), (5 : Int)], [(10 : Int), (15 : Int)]])) fun c =>
 bnd (Zwf (((1 : Int), (10 : Int))) ([((1 : Int), (0 : Int)), ((2 : Int), (0 : Int))])) fun d =>
 bnd (ZJb (((206 : Int), (100 : Int)))) fun j =>
 bnd (ZLf ((d.1.1, d.1.2)) j) fun e =>
 bnd (ifb (i == ((0 : Int)))
 (ifb (c.2 == ((0 : Int)))
 (ifb (e.2 == ((0 : Int)))
 (bnd (Z1e h) fun k =>
 ifb (k == (([53, 48] : List UInt8)))
 (bnd (Z1e c.1) fun l =>
 ifb (l == (([50, 47, 53] : List UInt8)))
 (some (e.1 == ((2 : Int))))
 (some false))
 (some false))
 (some false))
 (some false))
 (some false))
 (fun (m : Bool) =>
 (some m))))
theorem ZIl {q : Rat} : 0 < q.num ↔ 0 < q := by
  have h1 := Rat.num_nonneg (q := q); have h2 := Rat.num_eq_zero (q := q); constructor
  · intro h; have h3 : 0 ≤ q := h1.1 (by omega); have h4 : q ≠ 0 := fun e => by have := h2.2 e; omega
    grind
  · intro h; have h3 : 0 ≤ q.num := h1.2 (by grind); have h4 : q.num ≠ 0 := fun e => by have := h2.1 e; grind
    omega
theorem num_neg {q : Rat} : q.num < 0 ↔ q < 0 := by
  have h1 := Rat.num_nonneg (q := q); constructor
  · intro h; rcases Rat.le_total (a := 0) (b := q) with h3 | h3
    · have := h1.2 h3; omega
    · have h4 : q ≠ 0 := fun e => by subst e; simp at h
      grind
  · intro h; rcases Int.lt_or_le q.num 0 with h3 | h3
    · exact h3
    · have := h1.1 h3; grind
theorem Z5k {q : Rat} : (0 < q.num.sign) ↔ 0 < q := by
  rw [← ZIl]; rcases Int.lt_trichotomy q.num 0 with h | h | h
  · rw [Int.sign_eq_neg_one_of_neg h]; omega
  · rw [h]; simp
  · rw [Int.sign_eq_one_of_pos h]; omega
theorem ZYg {q : Rat} : (q.num.sign < 0) ↔ q < 0 := by
  rw [← num_neg]; rcases Int.lt_trichotomy q.num 0 with h | h | h
  · rw [Int.sign_eq_neg_one_of_neg h]; omega
  · rw [h]; simp
  · rw [Int.sign_eq_one_of_pos h]; omega
theorem Zmk {q : Rat} : (q.num.sign ≤ 0) ↔ q ≤ 0 := by
  have h := Z5k (q := q); constructor
  · intro h1; rcases Rat.le_total (a := q) (b := 0) with h2 | h2
    · exact h2
    · by_cases h3 : q = 0
      · grind
      · have := h.2 (by grind); omega
  · intro h1; rcases Int.lt_or_le 0 q.num.sign with h2 | h2
    · have := h.1 h2; grind
    · exact h2
theorem Zbq {q : Rat} : (0 ≤ q.num.sign) ↔ 0 ≤ q := by
  have h := ZYg (q := q); constructor
  · intro h1; rcases Rat.le_total (a := 0) (b := q) with h2 | h2
    · exact h2
    · by_cases h3 : q = 0
      · grind
      · have := h.2 (by grind); omega
  · intro h1; rcases Int.lt_or_le q.num.sign 0 with h2 | h2
    · have := h.1 h2; grind
    · exact h2
def sz (k : Nat) (x : Rat) : Prop := bl x.num.natAbs ≤ k ∧ bl x.den ≤ k
theorem sz.mono {k m : Nat} {x : Rat} (h : sz k x) (hk : k ≤ m) : sz m x := ⟨by have := h.1; omega, by have := h.2; omega⟩
theorem sz.ok {k : Nat} {x : Rat} (h : sz k x) (hk : k ≤ 1099511627776) : okQ x := ⟨by have := h.1; omega, by have := h.2; omega⟩
theorem sz.sm {k : Nat} {x : Rat} (h : sz k x) (hk : k ≤ 68719476736) : smQ x := ⟨by have := h.1; omega, by have := h.2; omega⟩
theorem Z1d {k m : Nat} {x y : Rat} (h : sz k x) (h' : sz m y) : sz (k + m + 1) (x + y) := by
  have := Zem x y; obtain ⟨a, b⟩ := h; obtain ⟨c, d⟩ := h'; exact ⟨by omega, by omega⟩
theorem Zyh {k m : Nat} {x y : Rat} (h : sz k x) (h' : sz m y) : sz (k + m) (x * y) := by
  have := ZQn x y; obtain ⟨a, b⟩ := h; obtain ⟨c, d⟩ := h'; exact ⟨by omega, by omega⟩
theorem sz_div {k m : Nat} {x y : Rat} (h : sz k x) (h' : sz m y) : sz (k + m + 1) (x / y) := by
  have := ZPl (x := x) (y := y); obtain ⟨a, b⟩ := h; obtain ⟨c, d⟩ := h'; exact ⟨by omega, by omega⟩
theorem ZAh {n : Int} (h : -9223372036854775808 ≤ n ∧ n ≤ 9223372036854775807) : sz 64 (n : Rat) := by
  have h2 := ZOh n; have h3 : bl n.natAbs ≤ 64 := Zmc (show n.natAbs < 2 ^ 64 by omega); exact ⟨by omega, by omega⟩
def i64 (r : Int × Int) : Prop := (-9223372036854775808 ≤ r.1 ∧ r.1 ≤ 9223372036854775807) ∧ (-9223372036854775808 ≤ r.2 ∧ r.2 ≤ 9223372036854775807)
theorem ZTe {r : Int × Int} (h : i64 r) : sz 64 (ZNa r) := by
  unfold ZNa; by_cases h0 : r.2 = 0
  · rw [if_pos h0]; exact ZAh h.1
  · rw [if_neg h0, ZZi]; obtain ⟨⟨a, b⟩, c, d⟩ := h; rcases Zzh (if r.2 < 0 then -r.1 else r.1) r.2.natAbs with ⟨h1, h2⟩ | h1
    · have h3 : bl (if r.2 < 0 then -r.1 else r.1).natAbs ≤ 64 := Zmc (show _ < 2 ^ 64 by split <;> omega); have h4 : bl r.2.natAbs ≤ 64 := Zmc (show _ < 2 ^ 64 by omega); exact ⟨by omega, by omega⟩
    · omega
theorem Zxj {k m : Nat} {x y : Rat} (h : sz k x) (h' : sz m y) (hk : k + m ≤ 1000000000) : Zuc x y = some (x + y) := by unfold Zuc; rw [if_pos ⟨h.ok (by omega), h'.ok (by omega)⟩]
theorem Zjf {k m : Nat} {x y : Rat} (h : sz k x) (h' : sz m y) (hk : k + m ≤ 1000000000) : ZDc x y = some (x - y).num.sign := by unfold ZDc; rw [if_pos ⟨h.ok (by omega), h'.ok (by omega)⟩]
def decG : Nat → Nat → List UInt8
  | 0, _ => []
  | k + 1, n => if n = 0 then [] else decG k (n / 10) ++ [UInt8.ofNat (48 + n % 10)]
theorem Z1j : ∀ (k n : Nat), n ≤ k → decG k n = ZRa n
  | 0, n, h => by
    have : n = 0 := by omega
    subst this; rw [Zod]; rfl
  | k + 1, n, h => by
    by_cases h0 : n = 0
    · subst h0; rw [Zod]; rfl
    · rw [ZUe h0, decG, if_neg h0, Z1j k (n / 10) (by omega)]
def txtG (x : Rat) : List UInt8 := (if x.num < 0 then [45] else []) ++ (if x.num.natAbs = 0 then [48] else decG x.num.natAbs x.num.natAbs) ++ (if x.den = 1 then [] else 47 :: (if x.den = 0 then [48] else decG x.den x.den))
theorem txtG_eq : txtG = txtQ := by
  funext x
  unfold txtG txtQ ZUc; rw [Z1j _ _ (Nat.le_refl _), Z1j _ _ (Nat.le_refl _)]
def ZKl (x : Rat) : Option (List UInt8) := if okQ x then some (txtG x) else none
theorem Zco : Z1e = ZKl := by
  funext x
  unfold Z1e ZKl; rw [txtG_eq]
set_option maxRecDepth 100000 in
theorem Zkq : Z2d = some true := by
  unfold Z2d; rw [Zco]; decide +kernel
theorem Zab {α β : Type} {x : Option α} {y : α} {f : α → Option β} {z : Option β} (h : x = some y) (h2 : f y = z) : bnd x f = z := by subst h; rw [Zf]; exact h2
theorem Zyd {S R : Type} {body : S → Option (S ⊕ R)} {s : S} {r : R} (st : Nat → S) (n : Nat) (h0 : st 0 = s) (hn : n < 2 ^ 64) (h : ∀ k, k < n → body (st k) = some (.inl (st (k + 1)))) (he : body (st n) = some (.inr r)) : ZZ body Zea s = some r := by
  have key : ∀ m f k, k + m = n → m < f → ZZ body f (st k) = some r := by
    intro m
    induction m with
    | zero =>
      intro f k hk hf; obtain ⟨f, rfl⟩ : ∃ g, f = g + 1 := ⟨f - 1, by omega⟩; obtain rfl : k = n := by omega
      unfold ZZ; rw [he, Zf]
    | succ m ih =>
      intro f k hk hf; obtain ⟨f, rfl⟩ : ∃ g, f = g + 1 := ⟨f - 1, by omega⟩; unfold ZZ; rw [h k (by omega), Zf]; exact ih f (k + 1) (by omega) (by omega)
  rw [← h0]; exact key n Zea 0 (by omega) (ZQa (by omega))
theorem Zuq {α : Type} {p : α → Bool} {l : List α} (h : l.any p = true) : ∃ m, ∃ hm : m < l.length, p l[m] = true ∧ ∀ j, (h : j < l.length) → j < m → p l[j] = false := by
  have hm : l.findIdx p < l.length := List.findIdx_lt_length.2 (List.any_eq_true.1 h); exact ⟨l.findIdx p, hm, List.findIdx_getElem, fun j hj hjm => by
    have := List.not_of_lt_findIdx hjm
    simpa using this⟩
theorem ZOq {α : Type} {p : α → Bool} {l : List α} (h : l.any p = false) : ∀ j, (hj : j < l.length) → p l[j] = false := fun j hj => by
  rw [List.any_eq_false] at h
  simpa using h l[j] (List.getElem_mem hj)
noncomputable def Zuh (x : Rat) : Option (Bool) :=
 bnd (Znd x) fun a =>
 some (decide (a < (0 : Int)))
noncomputable def Z0i (l : (List Rat)) (g : Unit) : Option (Int) :=
 bnd (bnd (ZZ (fun s : Int => match s with
 | a =>
 (ifb (decide (a < (l.length : Int)))
 (bnd (idx l a) fun b =>
 bnd (Zuh b) fun c =>
 ifb (c)
 (some (.inr ((.inl a))))
 (bnd (chk .i64 (a + ((1 : Int)))) fun d =>
 some (.inl d)))
 (some (.inr ((.inr (()))))))) Zea ((0 : Int)))
 (fun (p : (Int) ⊕ (Unit)) => match p with
 | .inl e =>
 (some ((.inr e)))
 | .inr (()) =>
 (some ((.inl (()))))))
 (fun (p : (Unit) ⊕ (Int)) => match p with
 | .inl (()) =>
 (some ((-1 : Int)))
 | .inr f =>
 (some f))
noncomputable def Zfg (l : (List Rat)) (g : Unit) : Option (Bool) :=
 bnd (Z0i l (())) fun a =>
 some (decide ((0 : Int) ≤ a))
noncomputable def ZPf (l : (List Rat)) : Option (Bool) :=
 bnd (Zfg l (())) fun a =>
 some a
theorem Zoq (l : List Rat) (hl : l.length ≤ 4611686018427387904) : Z8g l () = some (l.any fun x => decide (x.num.sign ≤ 0)) := by
  unfold Z8g ZWi ZVh Znd; rw [ZVa, ZVa]; refine Zbb (fun s : Int => ∃ k : Nat, s = (k : Int) ∧ k ≤ l.length ∧ (l.take k).any (fun x => decide (x.num.sign ≤ 0)) = false) (fun s => l.length - s.toNat)
      (fun r : Int ⊕ Unit => (∃ k : Nat, r = .inl (k : Int) ∧ l.any (fun x => decide (x.num.sign ≤ 0)) = true) ∨ r = .inr () ∧ l.any (fun x => decide (x.num.sign ≤ 0)) = false) ⟨0, rfl, by omega, rfl⟩ (ZQa (by simp; omega)) ?_ ?_
  · rintro s ⟨k, rfl, hk, ha⟩; simp only; by_cases h : k < l.length
    · rw [decide_eq_true (by omega), ZG, Z6 h, Zf, Zf, Zf]; by_cases h2 : l[k].num.sign ≤ 0
      · right; rw [decide_eq_true h2, ZG]; exact ⟨_, rfl, .inl ⟨k, rfl, List.any_eq_true.2 ⟨l[k], List.getElem_mem h, decide_eq_true h2⟩⟩⟩
      · left; rw [decide_eq_false h2, ZD, Zha (by omega) (by omega), Zf]; refine ⟨_, rfl, ⟨k + 1, by simp, by omega, ?_⟩, by simp; omega⟩; rw [List.take_succ_eq_append_getElem h, List.any_append, ha]; simp only [List.any_cons, List.any_nil, Bool.or_false, Bool.false_or]; exact decide_eq_false h2
    · right; rw [decide_eq_false (by omega), ZD]; rw [List.take_of_length_le (by omega)] at ha; exact ⟨_, rfl, .inr ⟨rfl, ha⟩⟩
  · rintro r (⟨k, rfl, h⟩ | ⟨rfl, h⟩)
    · rw [h]; simp only [Zf]; exact congrArg some (decide_eq_true (by omega))
    · rw [h]; rfl
theorem Z7p (l : List Rat) (hl : l.length ≤ 4611686018427387904) : Zfg l () = some (l.any fun x => decide (x.num.sign < 0)) := by
  unfold Zfg Z0i Zuh Znd; rw [ZVa, ZVa]; refine Zbb (fun s : Int => ∃ k : Nat, s = (k : Int) ∧ k ≤ l.length ∧ (l.take k).any (fun x => decide (x.num.sign < 0)) = false) (fun s => l.length - s.toNat)
      (fun r : Int ⊕ Unit => (∃ k : Nat, r = .inl (k : Int) ∧ l.any (fun x => decide (x.num.sign < 0)) = true) ∨ r = .inr () ∧ l.any (fun x => decide (x.num.sign < 0)) = false) ⟨0, rfl, by omega, rfl⟩ (ZQa (by simp; omega)) ?_ ?_
  · rintro s ⟨k, rfl, hk, ha⟩; simp only; by_cases h : k < l.length
    · rw [decide_eq_true (by omega), ZG, Z6 h, Zf, Zf, Zf]; by_cases h2 : l[k].num.sign < 0
      · right; rw [decide_eq_true h2, ZG]; exact ⟨_, rfl, .inl ⟨k, rfl, List.any_eq_true.2 ⟨l[k], List.getElem_mem h, decide_eq_true h2⟩⟩⟩
      · left; rw [decide_eq_false h2, ZD, Zha (by omega) (by omega), Zf]; refine ⟨_, rfl, ⟨k + 1, by simp, by omega, ?_⟩, by simp; omega⟩; rw [List.take_succ_eq_append_getElem h, List.any_append, ha]; simp only [List.any_cons, List.any_nil, Bool.or_false, Bool.false_or]; exact decide_eq_false h2
    · right; rw [decide_eq_false (by omega), ZD]; rw [List.take_of_length_le (by omega)] at ha; exact ⟨_, rfl, .inr ⟨rfl, ha⟩⟩
  · rintro r (⟨k, rfl, h⟩ | ⟨rfl, h⟩)
    · rw [h]; simp only [Zf]; exact congrArg some (decide_eq_true (by omega))
    · rw [h]; rfl
theorem ZKn (l : List Rat) (hl : l.length ≤ 4611686018427387904) : Zue l = some (l.all fun x => decide (0 < x)) := by
  unfold Zue; rw [Zoq l hl, Zf, List.not_any_eq_all_not]; congr 2
  funext x
  rw [Bool.eq_iff_iff]; simp only [Bool.not_eq_true', decide_eq_false_iff_not, decide_eq_true_iff, Zmk]; grind
theorem ZCq (l : List Rat) (hl : l.length ≤ 4611686018427387904) : ZPf l = some (l.any fun x => decide (x < 0)) := by
  unfold ZPf; rw [Z7p l hl, Zf]; congr 2
  funext x
  exact decide_eq_decide.2 ZYg
theorem Zwl (n : Int) : ZCc n = some (n : Rat) := by unfold ZCc Z4b; rw [Zf]
noncomputable def ZGg  : Option (Rat) :=
 bnd (Z6c ((1 : Int))) fun a =>
 some a
noncomputable def Zug  : Option (Rat) :=
 bnd (Z6c ((0 : Int))) fun a =>
 some a
def ent (t : List (List Int)) (i k : Nat) : Int := (t.getD i []).getD k 0
def upd (l : List Int) (i : Nat) (x : Int) : List Int := l.set i (l.getD i 0 + x)
theorem Zpe {α : Type} {l : List α} {i : Nat} {d : α} (h : i < l.length) : l.getD i d = l[i] := by rw [List.getD_eq_getElem?_getD, List.getElem?_eq_getElem h]; rfl
def rcF (t : List (List Int)) (i k : Nat) (p : List Int × List Int) : List Int × List Int := (upd p.1 i (ent t i k), upd p.2 k (ent t i k))
def RC (n : Nat) (B : Int) (p : List Int × List Int) : Prop := p.1.length = n ∧ p.2.length = n ∧ (∀ x ∈ p.1, 0 ≤ x ∧ x ≤ B) ∧ (∀ x ∈ p.2, 0 ≤ x ∧ x ≤ B)
theorem RC.at1 {n : Nat} {B : Int} {p : List Int × List Int} (h : RC n B p) {i : Nat} (hi : i < n) : ∃ hh : i < p.1.length, 0 ≤ p.1[i] ∧ p.1[i] ≤ B ∧ p.1.getD i 0 = p.1[i] := by
  have h1 : i < p.1.length := by rw [h.1]; exact hi
  exact ⟨h1, (h.2.2.1 _ (List.getElem_mem h1)).1, (h.2.2.1 _ (List.getElem_mem h1)).2, Zpe h1⟩
theorem RC.at2 {n : Nat} {B : Int} {p : List Int × List Int} (h : RC n B p) {i : Nat} (hi : i < n) : ∃ hh : i < p.2.length, 0 ≤ p.2[i] ∧ p.2[i] ≤ B ∧ p.2.getD i 0 = p.2[i] := by
  have h1 : i < p.2.length := by rw [h.2.1]; exact hi
  exact ⟨h1, (h.2.2.2 _ (List.getElem_mem h1)).1, (h.2.2.2 _ (List.getElem_mem h1)).2, Zpe h1⟩
theorem Z0l {l : List Int} {i : Nat} {x B : Int} (hx : 0 ≤ x ∧ x ≤ 1000000) (hi : i < l.length) (h : ∀ y ∈ l, 0 ≤ y ∧ y ≤ B) : ∀ y ∈ upd l i x, 0 ≤ y ∧ y ≤ B + 1000000 := by
  intro y hy; unfold upd at hy; have h2 := h _ (List.getElem_mem hi); rcases List.mem_or_eq_of_mem_set hy with h1 | h1
  · have := h y h1; omega
  · rw [Zpe hi] at h1; omega
structure Good (t : List (List Int)) : Prop where
  n0 : 0 < t.length
  n8 : t.length ≤ 8
  sq : ∀ i, (h : i < t.length) → t[i].length = t.length
  ok : ∀ i k, i < t.length → k < t.length → 0 ≤ ent t i k ∧ ent t i k ≤ 1000000
theorem RC.step {t : List (List Int)} (g : Good t) {B : Int} {p : List Int × List Int} {i k : Nat} (hi : i < t.length) (hk : k < t.length) (h : RC t.length B p) : RC t.length (B + 1000000) (rcF t i k p) :=
  ⟨by simp [rcF, upd, h.1], by simp [rcF, upd, h.2.1], Z0l (g.ok i k hi hk) (by rw [h.1]; exact hi) h.2.2.1, Z0l (g.ok i k hi hk) (by rw [h.2.1]; exact hk) h.2.2.2⟩
theorem RC.mono {n : Nat} {B C : Int} {p : List Int × List Int} (h : RC n B p) (hB : B ≤ C) : RC n C p :=
  ⟨h.1, h.2.1, fun x hx => by have := h.2.2.1 x hx; omega, fun x hx => by have := h.2.2.2 x hx; omega⟩
def pqF (t : List (List Int)) (w : Nat → Nat → Rat) (p : List Int × List Int) (i k : Nat) (s : Rat × Rat) : Rat × Rat :=
  (s.1 + w i k * ((ent t i k : Int) : Rat), s.2 + w i k * ((p.1.getD i 0 : Int) : Rat) * ((p.2.getD k 0 : Int) : Rat))
def SZ (k : Nat) (s : Rat × Rat) : Prop := sz k s.1 ∧ sz k s.2
theorem SZ.mono {k m : Nat} {s : Rat × Rat} (h : SZ k s) (hk : k ≤ m) : SZ m s := ⟨h.1.mono hk, h.2.mono hk⟩
theorem Z3e : sz 1 (0 : Rat) := by constructor <;> decide
section
variable {t : List (List Int)} {w : Nat → Nat → Rat} {p : List Int × List Int}
theorem SZ.step (g : Good t) (hw : ∀ i k, i < t.length → k < t.length → sz 200 (w i k)) (hp : RC t.length 64000000 p) {i k c : Nat} {s : Rat × Rat} (hi : i < t.length) (hk : k < t.length) (h : SZ c s) : SZ (c + 400) (pqF t w p i k s) := by
  have e := g.ok i k hi hk; obtain ⟨_, a1, a2, a3⟩ := hp.at1 hi; obtain ⟨_, b1, b2, b3⟩ := hp.at2 hk; refine ⟨(Z1d h.1 (Zyh (hw i k hi hk) (ZAh (n := ent t i k) (by omega)))).mono (by omega), (Z1d h.2 (Zyh (Zyh (hw i k hi hk) (ZAh (n := p.1.getD i 0) (by omega))) (ZAh (n := p.2.getD k 0) (by omega)))).mono (by omega)⟩
end
set_option maxRecDepth 100000
noncomputable def Z9g (x : Rat) : Option (Rat) :=
 bnd (Zfe x) fun a =>
 bnd (Zzc (!(decide (x.num < 0))) x.num.natAbs a) fun b =>
 some b
noncomputable def Zph (x : Rat) (y : Rat) : Option (Rat) :=
 bnd (Zfe x) fun a =>
 bnd (Zfe y) fun b =>
 bnd (Zcc x.num.natAbs b) fun c =>
 bnd (Zcc y.num.natAbs a) fun d =>
 ifb ((decide (x.num < 0)) == (decide (y.num < 0)))
 (bnd (Zrf c d) fun e =>
 bnd (Zcc a b) fun f =>
 bnd (Zzc (decide (x.num < 0)) e f) fun g =>
 some g)
 (bnd (ZVd c d) fun h =>
 ifb (decide ((0 : Int) ≤ h))
 (bnd (ZEc c d) fun i =>
 bnd (Zcc a b) fun j =>
 bnd (Zzc (decide (x.num < 0)) i j) fun k =>
 some k)
 (bnd (ZEc d c) fun l =>
 bnd (Zcc a b) fun m =>
 bnd (Zzc (decide (y.num < 0)) l m) fun n =>
 some n))
noncomputable def ZFh (x : Rat) (y : Rat) : Option (Rat) :=
 bnd (Zcg y) fun a =>
 bnd (Zce x a) fun b =>
 some b
noncomputable def ZTi (x : Rat) (y : Rat) : Option (Int) :=
 bnd (Z6g x y) fun a =>
 bnd (ZXd a) fun b =>
 some b
noncomputable def Zej (x : Rat) (y : Rat) : Option (Bool) :=
 bnd (ZDe x y) fun a =>
 some (a == ((0 : Int)))
theorem Z1g {n : Nat} (h : bl n ≤ 1099511627776) : Zhb n := Ztl (by omega)
theorem ZNd {n : Nat} (h : bl n ≤ 1099511627776) : ZPa n := by have := Z1g h; unfold Zhb at this; unfold ZPa; omega
theorem rneg_eq {x : Rat} (h : okQ x) : Z9g x = some (-x) := by
  obtain ⟨h1, h2⟩ := h; unfold Z9g Zfe Zzc; rw [Zf, if_pos ⟨Z1g h1, Z1g h2, x.den_nz⟩, Zf]; congr 1; have e : sgn (!(decide (x.num < 0))) x.num.natAbs = -x.num := by
    unfold sgn; by_cases h : x.num < 0
    · simp [h]; omega
    · simp [h]; omega
  rw [e]; exact Rat.mkRat_self (-x)
theorem ZKp {x z : Rat} (h : Zcg x = some z) : Z9g x = some z := by
  unfold Zcg at h; split at h
  · rename_i hh; rw [rneg_eq hh, h]
  · cases h
theorem radd_eq {x y : Rat} (h : smQ x) (h' : smQ y) : Zph x y = some (x + y) := by
  obtain ⟨a1, a2⟩ := h; obtain ⟨b1, b2⟩ := h'; unfold Zph Zfe; have p1 := Zbc x.num.natAbs y.den; have p2 := Zbc y.num.natAbs x.den; have p3 := Zbc x.den y.den; have p4 := Z4i (x.num.natAbs * y.den) (y.num.natAbs * x.den); have hd : x.den * y.den ≠ 0 := Nat.mul_ne_zero x.den_nz y.den_nz; have e1 : Zcc x.num.natAbs y.den = some (x.num.natAbs * y.den) := by unfold Zcc; rw [if_pos ⟨ZNd (by omega), ZNd (by omega)⟩]
  have e2 : Zcc y.num.natAbs x.den = some (y.num.natAbs * x.den) := by unfold Zcc; rw [if_pos ⟨ZNd (by omega), ZNd (by omega)⟩]
  have e3 : Zcc x.den y.den = some (x.den * y.den) := by unfold Zcc; rw [if_pos ⟨ZNd (by omega), ZNd (by omega)⟩]
  have eN : ((x.num.natAbs * y.den : Nat) : Int) = (x.num.natAbs : Int) * y.den := by simp
  have eM : ((y.num.natAbs * x.den : Nat) : Int) = (y.num.natAbs : Int) * x.den := by simp
  have key : ∀ (s : Bool) (n : Nat), bl n ≤ 1099511627776 → sgn s n = x.num * y.den + y.num * x.den → Zzc s n (x.den * y.den) = some (x + y) := by
    intro s n hn he; unfold Zzc; rw [if_pos ⟨Z1g hn, Z1g (by omega), hd⟩, he, ← Rat.add_def']
  rw [Zf, Zf, e1, Zf, e2, Zf, e3]; obtain ⟨N, hN⟩ : ∃ N, N = x.num.natAbs * y.den := ⟨_, rfl⟩; obtain ⟨M, hM⟩ : ∃ M, M = y.num.natAbs * x.den := ⟨_, rfl⟩; rw [← hN] at p1 p4 eN ⊢; rw [← hM] at p2 p4 eM ⊢; have sx : x.num * (y.den : Int) = if x.num < 0 then -(N : Int) else N := by
    split
    · rw [eN, ← Int.neg_mul]; congr 1; omega
    · rw [eN]; congr 1; omega
  have sy : y.num * (x.den : Int) = if y.num < 0 then -(M : Int) else M := by
    split
    · rw [eM, ← Int.neg_mul]; congr 1; omega
    · rw [eM]; congr 1; omega
  by_cases hs : (x.num < 0) ↔ (y.num < 0)
  · have e4 : Zrf N M = some (N + M) := by unfold Zrf; rw [if_pos ⟨ZNd (by omega), ZNd (by omega)⟩]
    have e5 : ((decide (x.num < 0)) == (decide (y.num < 0))) = true := by
      by_cases h : x.num < 0
      · simp [h, hs.1 h]
      · have h2 : ¬ y.num < 0 := fun k => h (hs.2 k); simp [h, h2]
    rw [e5, ZG, e4, Zf, Zf, key _ _ (by omega) ?_, Zf]; rw [sx, sy]; unfold sgn; by_cases h : x.num < 0
    · have h2 := hs.1 h; simp [h, h2]; omega
    · have h2 : ¬ y.num < 0 := fun k => h (hs.2 k); simp [h, h2]
  · have e5 : ((decide (x.num < 0)) == (decide (y.num < 0))) = false := by
      apply beq_false_of_ne; intro h; exact hs (by by_cases k : x.num < 0 <;> by_cases k2 : y.num < 0 <;> simp_all)
    rw [e5, ZD]; unfold ZVd; rw [Zf]; by_cases hle : M ≤ N
    · have e6 : decide ((0 : Int) ≤ Z7a N M) = true := by
        unfold Z7a; rw [if_neg (by omega)]; split <;> rfl
      have e4 : ZEc N M = some (N - M) := by unfold ZEc; rw [if_pos ⟨ZNd (by omega), hle⟩]
      have hb : bl (N - M) ≤ bl N := Zgd (by omega); rw [e6, ZG, e4, Zf, Zf, key _ _ (by omega) ?_, Zf]; rw [sx, sy]; unfold sgn; by_cases h : x.num < 0
      · have h2 : ¬ y.num < 0 := fun k => hs ⟨fun _ => k, fun _ => h⟩; simp [h, h2]; omega
      · have h2 : y.num < 0 := by
          rcases Int.lt_or_le y.num 0 with k | k
          · exact k
          · exact absurd ⟨fun q => absurd q h, fun q => absurd q (by omega)⟩ hs
        simp [h, h2]; omega
    · have e6 : decide ((0 : Int) ≤ Z7a N M) = false := by
        unfold Z7a; rw [if_pos (by omega)]; rfl
      have e4 : ZEc M N = some (M - N) := by unfold ZEc; rw [if_pos ⟨ZNd (by omega), by omega⟩]
      have hb : bl (M - N) ≤ bl M := Zgd (by omega); rw [e6, ZD, e4, Zf, Zf, key _ _ (by omega) ?_, Zf]; rw [sx, sy]; unfold sgn; by_cases h : x.num < 0
      · have h2 : ¬ y.num < 0 := fun k => hs ⟨fun _ => k, fun _ => h⟩; simp [h, h2]; omega
      · have h2 : y.num < 0 := by
          rcases Int.lt_or_le y.num 0 with k | k
          · exact k
          · exact absurd ⟨fun q => absurd q h, fun q => absurd q (by omega)⟩ hs
        simp [h, h2]; omega
theorem Z4o {x y z : Rat} (h : Zce x y = some z) : Zph x y = some z := by
  unfold Zce at h; split at h
  · rename_i hh; rw [radd_eq hh.1 hh.2, h]
  · cases h
theorem smQ_neg {x : Rat} (h : smQ x) : smQ (-x) := by
  unfold smQ at *; have := ZSj x; rw [this.1, this.2]; exact h
theorem smQ_ok {x : Rat} (h : smQ x) : okQ x := by unfold smQ at h; unfold okQ; omega
theorem Z2p {x y z : Rat} (h : Z6g x y = some z) : ZFh x y = some z := by
  unfold Z6g at h; split at h
  · rename_i hh; unfold ZFh Zcg Zce; rw [if_pos (smQ_ok hh.2), Zf, if_pos ⟨hh.1, smQ_neg hh.2⟩, Zf, ← Rat.sub_eq_add_neg]; exact h
  · cases h
theorem Zmp {x y : Rat} {z : Int} (h : ZDe x y = some z) : ZTi x y = some z := by
  unfold ZDe at h; split at h
  · rename_i hh
    cases h
    unfold ZTi Z6g ZXd; rw [if_pos hh, Zf, Zf]
  · cases h
theorem Z1p {x y : Rat} {z : Bool} (h : Z1f x y = some z) : Zej x y = some z := by
  unfold Z1f at h; split at h
  · rename_i hh
    cases h
    unfold Zej ZDe; rw [if_pos hh, Zf]; congr 1; rw [Bool.eq_iff_iff]; simp only [beq_iff_eq, decide_eq_true_iff, Int.sign_eq_zero_iff_zero, Rat.num_eq_zero]; constructor
    · intro h; grind
    · intro h; grind
  · cases h
set_option maxRecDepth 100000
theorem radd_ok {k m : Nat} {x y : Rat} (h : sz k x) (h' : sz m y) (hk : k + m ≤ 1000000000) : Zce x y = some (x + y) := by unfold Zce; rw [if_pos ⟨h.sm (by omega), h'.sm (by omega)⟩]
theorem rcmp_ok {k m : Nat} {x y : Rat} (h : sz k x) (h' : sz m y) (hk : k + m ≤ 1000000000) : ZDe x y = some (x - y).num.sign := by unfold ZDe; rw [if_pos ⟨h.sm (by omega), h'.sm (by omega)⟩]
theorem ZPo {k m : Nat} {x y : Rat} (h : sz k x) (h' : sz m y) (hk : k + m ≤ 1000000000) : Z1f x y = some (decide (x = y)) := by unfold Z1f; rw [if_pos ⟨h.sm (by omega), h'.sm (by omega)⟩]
theorem ZQo : Zug = some (0 : Rat) := by unfold Zug Z6c; rw [Zf]; rfl
theorem one8_eq : ZGg = some (1 : Rat) := by unfold ZGg Z6c; rw [Zf]; rfl
theorem Z3i : sz 1 (1 : Rat) := by constructor <;> decide
set_option maxRecDepth 100000
def ZSa {E S R : Type} (f : E → S → R ⊕ S) (fin : S → R) : List E → S → R
  | [], s => fin s
  | e :: l, s => match f e s with
    | .inl r => r
    | .inr s' => ZSa f fin l s'
theorem Zvj {E S R σ : Type} {body : σ → Option (σ ⊕ R)} (l : List E) (enc : S → Nat → σ) (f : E → S → R ⊕ S) (fin : S → R) (I : Nat → S → Prop) {s0 : S} {s : σ} (hs : enc s0 0 = s) (h0 : I 0 s0) (hlen : l.length < 2 ^ 64)
    (h1 : ∀ i s r, (hi : i < l.length) → I i s → f l[i] s = .inl r → body (enc s i) = some (.inr r)) (h2 : ∀ i s s', (hi : i < l.length) → I i s → f l[i] s = .inr s' → body (enc s i) = some (.inl (enc s' (i + 1))) ∧ I (i + 1) s')
    (he : ∀ s, I l.length s → body (enc s l.length) = some (.inr (fin s))) : ZZ body Zea s = some (ZSa f fin l s0) := by
  have key : ∀ m F i s, i + m = l.length → m < F → I i s → ZZ body F (enc s i) = some (ZSa f fin (l.drop i) s) := by
    intro m
    induction m with
    | zero =>
      intro F i s hi hF hI; obtain ⟨F, rfl⟩ : ∃ g, F = g + 1 := ⟨F - 1, by omega⟩; obtain rfl : i = l.length := by omega
      unfold ZZ; rw [he s hI, Zf, List.drop_length]; rfl
    | succ m ih =>
      intro F i s hi hF hI; obtain ⟨F, rfl⟩ : ∃ g, F = g + 1 := ⟨F - 1, by omega⟩; have hi' : i < l.length := by omega
      unfold ZZ; rw [List.drop_eq_getElem_cons hi']; unfold ZSa
      cases hf : f l[i] s with
      | inl r => rw [h1 i s r hi' hI hf, Zf]
      | inr s' =>
        have := h2 i s s' hi' hI hf; rw [this.1, Zf]; exact ih F (i + 1) s' (by omega) (by omega) this.2
  rw [← hs]; exact key l.length Zea 0 s0 (by omega) (ZQa (by omega)) h0
abbrev RR2 := Rat × Rat
def ZRb (l : List ((Int × Int) × (Int × Int))) : List RR2 := l.map fun x => (ZNa x.1, ZNa x.2)
def flr (x : Rat) : Int := x.num / (x.den : Int)
noncomputable def Zbg (t : (Rat × (List Rat))) : Option (Int) :=
 bnd (ZXd t.1) fun b =>
 ifb (decide (b ≤ (0 : Int)))
 (some ((1 : Int)))
 (bnd (ifb (decide ((t.2.length : Int) < (1 : Int)))
 (some true)
 (some (decide ((16 : Int) ≤ (t.2.length : Int)))))
 (fun (c : Bool) =>
 (ifb (c)
 (some ((4 : Int)))
 (bnd (bnd (ZZ (fun s : Int => match s with
 | a =>
 (ifb (decide (a < (t.2.length : Int)))
 (bnd (idx t.2 a) fun d =>
 bnd (chk .i64 (a - ((1 : Int)))) fun e =>
 bnd (idx t.2 e) fun f =>
 bnd (ZDe d f) fun g =>
 ifb (decide (g ≤ (0 : Int)))
 (some (.inr ((.inl ((7 : Int))))))
 (bnd (chk .i64 (a + ((1 : Int)))) fun h =>
 some (.inl h)))
 (some (.inr ((.inr (()))))))) Zea ((1 : Int)))
 (fun (p : (Int) ⊕ (Unit)) => match p with
 | .inl i =>
 (some ((.inr i)))
 | .inr (()) =>
 (some ((.inl (()))))))
 (fun (p : (Unit) ⊕ (Int)) => match p with
 | .inl (()) =>
 (some ((0 : Int)))
 | .inr j =>
 (some j))))))
set_option maxRecDepth 100000
theorem Z6k {R : Type} {body : Int → Option (Int ⊕ (R ⊕ Unit))} (n c : Nat) (p : Nat → Bool) (r : R) (hc : ∀ i, i < c → p i = false) (hcn : c ≤ n) (hn : n < 2 ^ 62) (h1 : ∀ i, c ≤ i → i < n → body (i : Int) = if p i then some (.inr (.inl r)) else some (.inl ((i : Int) + 1)))
    (he : body (n : Int) = some (.inr (.inr ()))) : ZZ body Zea (c : Int) = some (if (List.range n).any p then .inl r else .inr ()) := by
  by_cases h : (List.range n).any p = true
  · obtain ⟨m, hm, g1, g2⟩ := Zuq h; rw [List.length_range] at hm; rw [List.getElem_range] at g1; have hcm : c ≤ m := by
      rcases Nat.lt_or_ge m c with h | h
      · rw [hc m h] at g1; cases g1
      · exact h
    rw [if_pos h]; refine Zyd (fun k => ((c + k : Nat) : Int)) (m - c) (by simp) (by omega) (fun k hk => ?_) ?_
    · have := g2 (c + k) (by rw [List.length_range]; omega) (by omega); rw [List.getElem_range] at this; rw [h1 (c + k) (by omega) (by omega), this, if_neg (by simp)]; rfl
    · rw [show c + (m - c) = m by omega, h1 m hcm hm, g1, if_pos rfl]
  · have h' : (List.range n).any p = false := by simpa using h
    rw [if_neg h]; refine Zyd (fun k => ((c + k : Nat) : Int)) (n - c) (by simp) (by omega) (fun k hk => ?_) ?_
    · have := ZOq h' (c + k) (by rw [List.length_range]; omega); rw [List.getElem_range] at this; rw [h1 (c + k) (by omega) (by omega), this, if_neg (by simp)]; rfl
    · rw [show c + (n - c) = n by omega, he]
def ZXb (l : List Rat) (i : Nat) : Bool := decide (0 < i) && decide (l.getD i 0 ≤ l.getD (i - 1) 0)
abbrev Lab := Rat × List Rat
def Zjb (t : Lab) : Int := if t.1 ≤ 0 then 1 else if t.2.length = 0 ∨ 16 ≤ t.2.length then 4 else if (List.range t.2.length).any (ZXb t.2) then 7 else 0
def szR (l : List Rat) : Prop := ∀ i, (h : i < l.length) → sz 64 l[i]
theorem szR.at {l : List Rat} (h : szR l) {i : Nat} (hi : i < l.length) : sz 64 (l.getD i 0) := by rw [Zpe hi]; exact h i hi
theorem abv1 (x : Rat) : Zue [x] = some (decide (0 < x)) := by rw [ZKn _ (by simp)]; simp
theorem ZBk {x : Rat} : (!decide (0 < x)) = decide (x ≤ 0) := by
  rw [Bool.eq_iff_iff]; simp only [decide_eq_true_iff, Bool.not_eq_true', decide_eq_false_iff_not]; grind
theorem ZXm {x y : Rat} : ((x - y).num.sign ≤ 0) ↔ x ≤ y := by rw [Zmk]; constructor <;> intro h <;> grind
theorem sgn_ge {x y : Rat} : (0 ≤ (x - y).num.sign) ↔ y ≤ x := by rw [Zbq]; constructor <;> intro h <;> grind
theorem Zkl {x y : Rat} : ((x - y).num.sign < 0) ↔ x < y := by rw [ZYg]; constructor <;> intro h <;> grind
theorem ZJm {x y : Rat} : (0 < (x - y).num.sign) ↔ y < x := by rw [Z5k]; constructor <;> intro h <;> grind
theorem ZCm {t : Lab} (h : szR t.2) : ZYf t = some (Zjb t) := by
  unfold ZYf Zjb; rw [abv1, Zf, ZBk]; by_cases h0 : t.1 ≤ 0
  · rw [decide_eq_true h0, ZG, if_pos h0]
  rw [decide_eq_false h0, ZD, if_neg h0]; by_cases h1 : t.2.length = 0
  · rw [if_pos (.inl h1), h1]; rfl
  have e0 : ((t.2.length : Int) == 0) = false := by rw [Bool.eq_false_iff]; intro h; rw [beq_iff_eq] at h; omega
  rw [e0, ZD, Zf]; by_cases h2 : 16 ≤ t.2.length
  · rw [if_pos (.inr h2), decide_eq_true (by omega), ZG]
  rw [if_neg (by omega), decide_eq_false (by omega), ZD]; have hloop : ∀ {body : Int → Option (Int ⊕ (Int ⊕ Unit))}, (∀ i, 0 ≤ i → i < t.2.length → body (i : Int) = if ZXb t.2 i then some (.inr (.inl 7)) else some (.inl ((i : Int) + 1))) → body (t.2.length : Int) = some (.inr (.inr ())) → ZZ body Zea 0 = some (if (List.range t.2.length).any (ZXb t.2) then .inl 7 else .inr ()) := fun h1 he => Z6k t.2.length 0 (ZXb t.2) 7 (fun i hi => by omega) (by omega) (by omega) h1 he; refine Zab (y := if (List.range t.2.length).any (ZXb t.2) then .inr (7 : Int) else .inl ()) (Zab (hloop (fun i _ hi => ?_) ?_) ?_) ?_
  · simp only; have ga := Zpe (d := (0 : Rat)) hi; rw [decide_eq_true (by omega), ZG, Z6 hi, Zf]; have e : ifb (decide ((0 : Int) < (i : Int))) (bnd (chk .i64 ((i : Int) - ((1 : Int)))) fun y138 => bnd (idx t.2 y138) fun y140 => bnd (ZDc t.2[i] y140) fun y148 => some (decide (y148 ≤ (0 : Int)))) (some false) = some (ZXb t.2 i) := by
      unfold ZXb; by_cases hi0 : i = 0
      · subst hi0; rfl
      · have e1 : (i : Int) - 1 = ((i - 1 : Nat) : Int) := by omega
        have gb := Zpe (d := (0 : Rat)) (show i - 1 < t.2.length by omega); rw [decide_eq_true (by omega), ZG, Zha (by omega) (by omega), Zf, e1, Z6 (by omega), Zf, Zjf (h i hi) (h (i - 1) (by omega)) (by omega), Zf, ga, gb, decide_eq_true (show 0 < i by omega), Bool.true_and]; exact congrArg some (decide_eq_decide.2 ZXm)
    rw [e, Zf]
    cases hb : ZXb t.2 i
    · rw [ZD, Zha (by omega) (by omega), Zf, if_neg (by simp)]
    · rw [ZG, if_pos rfl]
  · simp only; rw [decide_eq_false (by omega), ZD]
  · generalize (List.range t.2.length).any (ZXb t.2) = b; cases b <;> rfl
  · generalize (List.range t.2.length).any (ZXb t.2) = b; cases b <;> rfl
theorem Z8p {t : Lab} (h : szR t.2) : Zbg t = some (Zjb t) := by
  unfold Zbg Zjb ZXd; rw [Zf, decide_eq_decide.2 (Zmk (q := t.1))]; by_cases h0 : t.1 ≤ 0
  · rw [decide_eq_true h0, ZG, if_pos h0]
  rw [decide_eq_false h0, ZD, if_neg h0]; by_cases h1 : t.2.length = 0
  · rw [if_pos (.inl h1), h1]; rfl
  rw [decide_eq_false (by omega), ZD, Zf]; by_cases h2 : 16 ≤ t.2.length
  · rw [if_pos (.inr h2), decide_eq_true (by omega), ZG]
  rw [if_neg (by omega), decide_eq_false (by omega), ZD]; have hloop : ∀ {body : Int → Option (Int ⊕ (Int ⊕ Unit))}, (∀ i, 1 ≤ i → i < t.2.length → body (i : Int) = if ZXb t.2 i then some (.inr (.inl 7)) else some (.inl ((i : Int) + 1))) → body (t.2.length : Int) = some (.inr (.inr ())) → ZZ body Zea 1 = some (if (List.range t.2.length).any (ZXb t.2) then .inl 7 else .inr ()) := by
    intro body g1 g2; exact Z6k t.2.length 1 (ZXb t.2) 7 (fun i hi => by
      have : i = 0 := by omega
      rw [this]; rfl) (by omega) (by omega) g1 g2
  refine Zab (y := if (List.range t.2.length).any (ZXb t.2) then .inr (7 : Int) else .inl ()) (Zab (hloop (fun i hi1 hi => ?_) ?_) ?_) ?_
  · simp only; have ga := Zpe (d := (0 : Rat)) hi; have e1 : (i : Int) - 1 = ((i - 1 : Nat) : Int) := by omega
    have gb := Zpe (d := (0 : Rat)) (show i - 1 < t.2.length by omega); rw [decide_eq_true (by omega), ZG, Z6 hi, Zf, Zha (by omega) (by omega), Zf, e1, Z6 (by omega), Zf, rcmp_ok (h i hi) (h (i - 1) (by omega)) (by omega), Zf, decide_eq_decide.2 ZXm]; have e : ZXb t.2 i = decide (t.2[i] ≤ t.2[i - 1]) := by unfold ZXb; rw [ga, gb, decide_eq_true (show 0 < i by omega), Bool.true_and]
    rw [← e]
    cases hb : ZXb t.2 i
    · rw [ZD, Zha (by omega) (by omega), Zf, if_neg (by simp)]
    · rw [ZG, if_pos rfl]
  · simp only; rw [decide_eq_false (by omega), ZD]
  · generalize (List.range t.2.length).any (ZXb t.2) = b; cases b <;> rfl
  · generalize (List.range t.2.length).any (ZXb t.2) = b; cases b <;> rfl
theorem rnd_def (q : Rat) : rnd q = if 0 < (q - (flr q : Rat) - mkRat 1 2).num.sign ∨ (q - (flr q : Rat) - mkRat 1 2).num.sign = 0 ∧ (flr q).natAbs % 2 = 1 then flr q + 1 else flr q := rfl
theorem Z7l {k : Nat} {x : Rat} (h : sz k x) : sz (k + 1) ((flr x : Int) : Rat) := by
  have h2 := ZOh (flr x); have h3 := Zgd (ZIi x.num x.den); obtain ⟨a, b⟩ := h; have h4 : bl (flr x).natAbs ≤ bl x.num.natAbs := h3; exact ⟨by omega, by omega⟩
theorem rnd_sz {k : Nat} {x : Rat} (h : sz k x) : sz (k + 3) ((rnd x : Int) : Rat) := by
  rw [rnd_def]; split
  · rw [Rat.intCast_add]; exact (Z1d (Z7l h) Z3i).mono (by omega)
  · exact (Z7l h).mono (by omega)
def rdm (x s : Rat) : Rat := (rnd (x / s) : Rat) * s
theorem rdm_sz {k m : Nat} {x s : Rat} (h : sz k x) (h' : sz m s) : sz (k + 2 * m + 4) (rdm x s) := (Zyh (rnd_sz (sz_div h h')) h').mono (by omega)
theorem Zvq {k m : Nat} {x s : Rat} (h : sz k x) (h' : sz m s) (hk : k + m ≤ 1000000000) (hs : 0 < s) : ZZf x s = some (rdm x s, 0) := by
  unfold ZZf rdm; rw [if_pos ⟨h.sm (by omega), h'.sm (by omega)⟩, if_neg (by have := ZIl.2 hs; omega)]
def ZOc (t : Lab) (x : Rat) : Nat := t.2.findIdx (fun y => decide (rdm x t.1 ≤ y))
theorem clsF_le (t : Lab) (x : Rat) : ZOc t x ≤ t.2.length := List.findIdx_le_length
structure GoodT (t : Lab) : Prop where
  pos : 0 < t.1
  szs : sz 64 t.1
  szl : szR t.2
  len : t.2.length < 16
theorem ZXk {t : Lab} (g : GoodT t) {k : Nat} {x : Rat} (h : sz k x) (hk : k ≤ 10000000) : ZUf t x = some (ZOc t x : Int) := by
  unfold ZUf; have zr := rdm_sz h g.szs; have hl := g.len; rw [Zvq h g.szs (by omega) g.pos, Zf]; simp only; unfold Zvi ZOc; generalize rdm x t.1 = r at *; have body1 : ∀ i, (hi : i < t.2.length) → Zhg t.2[i] r = some (decide (r ≤ t.2[i])) := fun i hi => by
    unfold Zhg; rw [Zjf (g.szl i hi) zr (by omega), Zf]; exact congrArg some (decide_eq_decide.2 sgn_ge)
  by_cases hc : t.2.findIdx (fun y => decide (r ≤ y)) < t.2.length
  · refine Zab (y := ((t.2.findIdx (fun y => decide (r ≤ y)) : Nat) : Int)) (Zab (y := .inr ((t.2.findIdx (fun y => decide (r ≤ y)) : Nat) : Int)) (Zab (Zyd (r := .inl ((t.2.findIdx (fun y => decide (r ≤ y)) : Nat) : Int)) (fun k => (k : Int)) (t.2.findIdx (fun y => decide (r ≤ y))) rfl (by omega) (fun i hi => ?_) ?_) rfl) rfl) ?_
    · have := List.not_of_lt_findIdx (xs := t.2) (p := fun y => decide (r ≤ y)) hi; have hf : decide (r ≤ t.2[i]) = false := by simpa using this
      simp only; rw [decide_eq_true (by omega), ZG, Z6 (by omega), Zf, body1 i (by omega), Zf, hf, ZD, Zha (by omega) (by omega), Zf]; rfl
    · have := List.findIdx_getElem (xs := t.2) (p := fun y => decide (r ≤ y)) (w := hc); simp only; rw [decide_eq_true (by omega), ZG, Z6 hc, Zf, body1 _ hc, Zf, this, ZG]
    · rw [decide_eq_false (by omega), ZD]
  · have hlen : t.2.findIdx (fun y => decide (r ≤ y)) = t.2.length := by have := List.findIdx_le_length (xs := t.2) (p := fun y => decide (r ≤ y)); omega
    rw [hlen]; refine Zab (y := (-1 : Int)) (Zab (y := .inl ()) (Zab (Zyd (r := .inr ()) (fun k => (k : Int)) t.2.length rfl (by omega) (fun i hi => ?_) ?_) rfl) rfl) ?_
    · have := List.not_of_lt_findIdx (xs := t.2) (p := fun y => decide (r ≤ y)) (i := i) (by omega); have hf : decide (r ≤ t.2[i]) = false := by simpa using this
      simp only; rw [decide_eq_true (by omega), ZG, Z6 hi, Zf, body1 i hi, Zf, hf, ZD, Zha (by omega) (by omega), Zf]; rfl
    · simp only; rw [decide_eq_false (by omega), ZD]
    · rfl
noncomputable def Zyg (l : (List ((Int × Int) × (Int × Int)))) : Option ((List (Rat × Rat)) × (List (Rat × Rat))) :=
 bnd (bnd (ZZ (fun s : (List (Rat × Rat)) × (List (Rat × Rat)) × Int => match s with
 | (b, c, d) =>
 (ifb (decide (d < (l.length : Int)))
 (bnd (idx l d) fun a =>
 bnd (ZJb ((a.1.1, a.1.2))) fun e =>
 bnd (ZJb ((a.2.1, a.2.2))) fun f =>
 bnd (ZZa 112 (b ++ [(e, f)])) fun o =>
 bnd (Z8c ((a.1.1, a.1.2))) fun g =>
 bnd (Z8c ((a.2.1, a.2.2))) fun h =>
 bnd (ZZa 112 (c ++ [(g, h)])) fun q =>
 bnd (chk .i64 (d + ((1 : Int)))) fun i =>
 some (.inl (((b ++ [(e, f)]), (c ++ [(g, h)]), i))))
 (some (.inr ((b, c)))))) Zea ((([] : (List (Rat × Rat))), ([] : (List (Rat × Rat))), (0 : Int))))
 (fun (p : (List (Rat × Rat)) × (List (Rat × Rat))) => match p with
 | (j, k) =>
 (some ((j, k)))))
 (fun (p : (List (Rat × Rat)) × (List (Rat × Rat))) => match p with
 | (m, n) =>
 (some ((m, n))))
noncomputable def Zqg (d : (List (Rat × Rat))) : Option (Int) :=
 bnd (ifb (((d.length : Int)) == ((0 : Int)))
 (some true)
 (some (decide ((64 : Int) < (d.length : Int)))))
 (fun (e : Bool) =>
 (ifb (e)
 (some ((4 : Int)))
 (bnd (bnd (ZZ (fun s : Rat × Int => match s with
 | (b, a) =>
 (ifb (decide (a < (d.length : Int)))
 (bnd (idx d a) fun c =>
 bnd (ZPf ([c.2])) fun f =>
 ifb (f)
 (some (.inr ((.inl ((1 : Int))))))
 (bnd (Zuc b c.2) fun g =>
 bnd (chk .i64 (a + ((1 : Int)))) fun h =>
 some (.inl ((g, h)))))
 (some (.inr ((.inr b)))))) Zea (((0 : Rat), (0 : Int))))
 (fun (p : (Int) ⊕ (Rat)) => match p with
 | .inl i =>
 (some ((.inr i)))
 | .inr j =>
 (some ((.inl j)))))
 (fun (p : (Rat) ⊕ (Int)) => match p with
 | .inl k =>
 (bnd (ZCc ((1 : Int))) fun l =>
 bnd (Zae k l) fun m =>
 ifb (!(m))
 (some ((1 : Int)))
 (some ((0 : Int))))
 | .inr n =>
 (some n)))))
noncomputable def Zhf (t : (Rat × (List Rat))) (d : (List (Rat × Rat))) : Option (Int) :=
 bnd (ZYf ((t.1, t.2))) fun a =>
 ifb (a != ((0 : Int)))
 (some a)
 (bnd (Zqg d) fun b =>
 some b)
noncomputable def Ztf (t : (Rat × (List Rat))) (x : Rat) (d : (List (Rat × Rat))) (cls : Int) : Option (Rat) :=
 bnd (bnd (ZZ (fun s : Rat × Int => match s with
 | (a, b) =>
 (ifb (decide (b < (d.length : Int)))
 (bnd (idx d b) fun c =>
 bnd (Zuc x c.1) fun e =>
 bnd (ZUf ((t.1, t.2)) e) fun f =>
 bnd (ifb (decide (f ≤ cls))
 (bnd (Zuc a c.2) fun g =>
 some g)
 (some a))
 (fun (h : Rat) =>
 (bnd (chk .i64 (b + ((1 : Int)))) fun i =>
 some (.inl ((h, i))))))
 (some (.inr a)))) Zea (((0 : Rat), (0 : Int))))
 (fun (j : Rat) =>
 (some j)))
 (fun (k : Rat) =>
 (some k))
noncomputable def ZKf (t : (Rat × (List Rat))) (x : Rat) (d : (List (Rat × Rat))) (chance : Rat) : Option (Int × Int) :=
 bnd (Zhf ((t.1, t.2)) d) fun b =>
 ifb (b != ((0 : Int)))
 (some (((0 : Int), b)))
 (bnd (bnd (Zue ([chance])) fun c =>
 ifb (!(c))
 (some true)
 (bnd (ZCc ((1 : Int))) fun e =>
 bnd (ZDc chance e) fun f =>
 some (decide ((0 : Int) < f))))
 (fun (g : Bool) =>
 (ifb (g)
 (some (((0 : Int), (1 : Int))))
 (bnd (bnd (ZZ (fun s : Int => match s with
 | a =>
 (bnd (Ztf ((t.1, t.2)) x d a) fun h =>
 bnd (ZDc h chance) fun i =>
 ifb (decide (i < (0 : Int)))
 (bnd (chk .i64 (a + ((1 : Int)))) fun j =>
 some (.inl j))
 (some (.inr a)))) Zea ((0 : Int)))
 (fun (k : Int) =>
 (some k)))
 (fun (l : Int) =>
 (some ((l, (0 : Int)))))))))
noncomputable def Zhe (t : (Rat × (List Rat))) (x : Rat) (d : (List (Rat × Rat))) (cls : Int) : Option (Rat × Int) :=
 bnd (Zhf ((t.1, t.2)) d) fun a =>
 ifb (a != ((0 : Int)))
 (some (((0 : Rat), a)))
 (bnd (ifb (decide (cls < (0 : Int)))
 (some true)
 (some (decide ((t.2.length : Int) < cls))))
 (fun (b : Bool) =>
 (ifb (b)
 (some (((0 : Rat), (1 : Int))))
 (bnd (Ztf ((t.1, t.2)) x d cls) fun c =>
 some ((c, (0 : Int)))))))
noncomputable def Znh (d : (List (Rat × Rat))) : Option (Int) :=
 bnd (ifb (decide ((d.length : Int) < (1 : Int)))
 (some true)
 (some (decide ((64 : Int) < (d.length : Int)))))
 (fun (c : Bool) =>
 (ifb (c)
 (some ((4 : Int)))
 (bnd (Zug ) fun e =>
 bnd (bnd (ZZ (fun s : Rat × Int => match s with
 | (b, a) =>
 (ifb (decide (a < (d.length : Int)))
 (bnd (idx d a) fun f =>
 bnd (ZXd f.2) fun g =>
 ifb (decide (g < (0 : Int)))
 (some (.inr ((.inl ((1 : Int))))))
 (bnd (idx d a) fun h =>
 bnd (Zce b h.2) fun i =>
 bnd (chk .i64 (a + ((1 : Int)))) fun j =>
 some (.inl ((i, j)))))
 (some (.inr ((.inr b)))))) Zea ((e, (0 : Int))))
 (fun (p : (Int) ⊕ (Rat)) => match p with
 | .inl k =>
 (some ((.inr k)))
 | .inr l =>
 (some ((.inl l)))))
 (fun (p : (Rat) ⊕ (Int)) => match p with
 | .inl m =>
 (bnd (ZGg ) fun n =>
 bnd (Z1f m n) fun o =>
 ifb (!(o))
 (some ((1 : Int)))
 (some ((0 : Int))))
 | .inr q =>
 (some q)))))
set_option maxRecDepth 100000
def szP (l : List RR2) : Prop := ∀ i, (h : i < l.length) → sz 64 l[i].1 ∧ sz 64 l[i].2
def dst (e : RR2) (s : Rat) : Int ⊕ Rat := if e.2 < 0 then .inl 1 else .inr (s + e.2)
def ZLc (s : Rat) : Int := if s = 1 then 0 else 1
def Z9a (d : List RR2) : Int := if d.length = 0 ∨ 64 < d.length then 4 else ZSa dst ZLc d 0
theorem ZOm (x : Rat) : ZPf [x] = some (decide (x < 0)) := by rw [ZCq _ (by simp)]; simp
def Zxb (e : RR2) (s : Rat) : (Int ⊕ Rat) ⊕ Rat := if e.2 < 0 then .inl (.inl 1) else .inr (s + e.2)
def dout : Int ⊕ Rat → Int
  | .inl c => c
  | .inr s => ZLc s
theorem Zpk : ∀ (d : List RR2) (s : Rat), dout (ZSa Zxb (fun s => .inr s) d s) = ZSa dst ZLc d s
  | [], s => rfl
  | e :: d, s => by
    by_cases h : e.2 < 0
    · have h2 : Zxb e s = .inl (.inl 1) := by unfold Zxb; rw [if_pos h]
      have h3 : dst e s = .inl 1 := by unfold dst; rw [if_pos h]
      rw [ZSa, ZSa, h2, h3]; rfl
    · have h2 : Zxb e s = .inr (s + e.2) := by unfold Zxb; rw [if_neg h]
      have h3 : dst e s = .inr (s + e.2) := by unfold dst; rw [if_neg h]
      rw [ZSa, ZSa, h2, h3]; exact Zpk d _
theorem Zzo {d : List RR2} (h : szP d) : Zqg d = some (Z9a d) := by
  unfold Zqg Z9a; by_cases h0 : d.length = 0
  · rw [if_pos (.inl h0), h0]; rfl
  have e0 : ((d.length : Int) == 0) = false := by rw [Bool.eq_false_iff]; intro h; rw [beq_iff_eq] at h; omega
  rw [e0, ZD, Zf]; by_cases h1 : 64 < d.length
  · rw [if_pos (.inr h1), decide_eq_true (by omega), ZG]
  rw [if_neg (by omega), decide_eq_false (by omega), ZD, ← Zpk]; refine Zab (y := match ZSa Zxb (fun s => .inr s) d 0 with | .inl c => (.inr c : Rat ⊕ Int) | .inr s => .inl s) (Zab (Zvj d (fun s i => (s, (i : Int))) Zxb (fun s => (.inr s : Int ⊕ Rat)) (fun i s => sz (65 * i + 1) s) rfl Z3e (by omega) (fun i s r hi hI hf => ?_) (fun i s s' hi hI hf => ?_) (fun s hI => ?_)) ?_) ?_
  · unfold Zxb at hf; split at hf
    · rename_i hn
      cases hf
      simp only; rw [decide_eq_true (by omega), ZG, Z6 hi, Zf, ZOm, Zf, decide_eq_true hn, ZG]
    · cases hf
  · unfold Zxb at hf; split at hf
    · cases hf
    · rename_i hn
      cases hf
      have z := (h i hi).2; simp only; rw [decide_eq_true (by omega), ZG, Z6 hi, Zf, ZOm, Zf, decide_eq_false hn, ZD, Zxj hI z (by omega), Zf, Zha (by omega) (by omega), Zf]; exact ⟨rfl, (Z1d hI z).mono (by omega)⟩
  · simp only; rw [decide_eq_false (by omega), ZD]
  · cases ZSa Zxb (fun s => .inr s) d 0 <;> rfl
  · cases ZSa Zxb (fun s => .inr s) d 0 with
    | inl c => rfl
    | inr s =>
      simp only; have qs : ∀ x y : Rat, Zae x y = some (decide (x = y)) := fun _ _ => rfl; rw [Zwl, Zf, qs, Zf]; unfold dout ZLc; simp only; by_cases hs : s = 1
      · subst hs; rfl
      · rw [if_neg hs, decide_eq_false (show ¬ s = ((1 : Int) : Rat) from hs)]; rfl
theorem ZSk : ∀ (d : List RR2) (s : Rat) (c : Nat) (s' : Rat), (∀ x ∈ d, sz 64 x.2) → sz c s → ZSa Zxb (fun s => (.inr s : Int ⊕ Rat)) d s = .inr s' → sz (c + 65 * d.length) s'
  | [], s, c, s', _, hs, h => by
    have h : s = s' := Sum.inr.inj h
    rw [← h]; exact hs.mono (by simp)
  | e :: d, s, c, s', hd, hs, h => by
    by_cases hn : e.2 < 0
    · have h2 : Zxb e s = .inl (.inl 1) := by unfold Zxb; rw [if_pos hn]
      rw [ZSa, h2] at h
      cases h
    · have h2 : Zxb e s = .inr (s + e.2) := by unfold Zxb; rw [if_neg hn]
      rw [ZSa, h2] at h
      have := ZSk d _ _ s' (fun x hx => hd x (List.mem_cons_of_mem _ hx)) (Z1d hs (hd e List.mem_cons_self)) h
      exact this.mono (by rw [List.length_cons]; omega)
theorem ZJo {d : List RR2} (h : szP d) : Znh d = some (Z9a d) := by
  unfold Znh Z9a ZXd; by_cases h0 : d.length = 0
  · rw [if_pos (.inl h0), decide_eq_true (by omega), ZG, Zf, ZG]
  rw [decide_eq_false (by omega), ZD, Zf]; by_cases h1 : 64 < d.length
  · rw [if_pos (.inr h1), decide_eq_true (by omega), ZG]
  rw [if_neg (by omega), decide_eq_false (by omega), ZD, ← Zpk, ZQo, one8_eq, Zf]; refine Zab (y := match ZSa Zxb (fun s => .inr s) d 0 with | .inl c => (.inr c : Rat ⊕ Int) | .inr s => .inl s) (Zab (Zvj d (fun s i => (s, (i : Int))) Zxb (fun s => (.inr s : Int ⊕ Rat)) (fun i s => sz (65 * i + 1) s) rfl Z3e (by omega) (fun i s r hi hI hf => ?_) (fun i s s' hi hI hf => ?_) (fun s hI => ?_)) ?_) ?_
  · unfold Zxb at hf; split at hf
    · rename_i hn
      cases hf
      simp only; rw [decide_eq_true (by omega), ZG, Z6 hi, Zf, Zf, decide_eq_true (ZYg.2 hn), ZG]
    · cases hf
  · unfold Zxb at hf; split at hf
    · cases hf
    · rename_i hn
      cases hf
      have z := (h i hi).2; simp only; rw [decide_eq_true (by omega), ZG, Z6 hi, Zf, Zf, decide_eq_false (fun h => hn (ZYg.1 h)), ZD, Zf, radd_ok hI z (by omega), Zf, Zha (by omega) (by omega), Zf]; exact ⟨rfl, (Z1d hI z).mono (by omega)⟩
  · simp only; rw [decide_eq_false (by omega), ZD]
  · cases ZSa Zxb (fun s => .inr s) d 0 <;> rfl
  · cases hr : ZSa Zxb (fun s => .inr s) d 0 with
    | inl c => rfl
    | inr s =>
      simp only [Zf]; have zk := ZSk d 0 1 s (fun x hx => by obtain ⟨i, hi, rfl⟩ := List.getElem_of_mem hx; exact (h i hi).2) Z3e hr; rw [ZPo zk Z3i (by omega), Zf]; unfold dout ZLc; simp only; by_cases hs : s = 1
      · subst hs; rfl
      · rw [if_neg hs, decide_eq_false hs]; rfl
def kst (t : Lab) (x : Rat) (cls : Int) (e : RR2) (s : Rat) : Rat ⊕ Rat := .inr (if (ZOc t (x + e.1) : Int) ≤ cls then s + e.2 else s)
def kF (t : Lab) (x : Rat) (d : List RR2) (cls : Int) : Rat := ZSa (kst t x cls) id d 0
theorem ZYk (t : Lab) (x : Rat) (cls : Int) : ∀ (d : List RR2) (s : Rat) (c : Nat), (∀ y ∈ d, sz 64 y.2) → sz c s → sz (c + 65 * d.length) (ZSa (kst t x cls) id d s)
  | [], s, c, _, hs => hs.mono (by simp)
  | e :: d, s, c, hd, hs => by
    rw [ZSa]
    show sz _ (ZSa (kst t x cls) id d (if (ZOc t (x + e.1) : Int) ≤ cls then s + e.2 else s))
    have hz : sz (c + 65) (if (ZOc t (x + e.1) : Int) ≤ cls then s + e.2 else s) := by
      split
      · exact (Z1d hs (hd e List.mem_cons_self)).mono (by omega)
      · exact hs.mono (by omega)
    have := ZYk t x cls d _ _ (fun x hx => hd x (List.mem_cons_of_mem _ hx)) hz; exact this.mono (by rw [List.length_cons]; omega)
theorem szP.mem {d : List RR2} (h : szP d) : ∀ y ∈ d, sz 64 y.2 := fun y hy => by obtain ⟨i, hi, rfl⟩ := List.getElem_of_mem hy; exact (h i hi).2
theorem kF_sz {t : Lab} {x : Rat} {d : List RR2} {cls : Int} (h : szP d) (hl : d.length ≤ 80) : sz 5300 (kF t x d cls) := (ZYk t x cls d 0 1 h.mem Z3e).mono (by omega)
theorem ZIm {t : Lab} (g : GoodT t) {x : Rat} (hx : sz 64 x) {d : List RR2} (h : szP d) (hl : d.length ≤ 80) (cls : Int) : Ztf t x d cls = some (kF t x d cls) := by
  unfold Ztf kF; refine Zab (Zab (Zvj d (fun s i => (s, (i : Int))) (kst t x cls) id (fun i s => sz (65 * i + 1) s) rfl Z3e (by omega) (fun i s r hi hI hf => by cases hf) (fun i s s' hi hI hf => ?_) (fun s hI => ?_)) rfl) rfl
  · cases hf
    have z := h i hi; have zs := Z1d hx z.1; have hc := ZXk g zs (by omega); simp only; rw [decide_eq_true (by omega), ZG, Z6 hi, Zf, Zxj hx z.1 (by omega), Zf, hc, Zf]; by_cases hk : (ZOc t (x + d[i].1) : Int) ≤ cls
    · rw [decide_eq_true hk, ZG, Zxj hI z.2 (by omega), Zf, Zf, Zha (by omega) (by omega), Zf, if_pos hk]; exact ⟨rfl, (Z1d hI z.2).mono (by omega)⟩
    · rw [decide_eq_false hk, ZD, Zf, Zha (by omega) (by omega), Zf, if_neg hk]; exact ⟨rfl, hI.mono (by omega)⟩
  · simp only; rw [decide_eq_false (by omega), ZD]; rfl
theorem Zyj {t : Lab} {x : Rat} {cls : Int} (hc : (t.2.length : Int) ≤ cls) : ∀ (d : List RR2) (s : Rat), ZSa dst ZLc d s = 0 → ZSa (kst t x cls) id d s = 1
  | [], s, h => by
    have h : ZLc s = 0 := h
    unfold ZLc at h
    split at h
    · rename_i hs; exact hs
    · cases h
  | e :: d, s, h => by
    by_cases hn : e.2 < 0
    · have h2 : dst e s = .inl 1 := by unfold dst; rw [if_pos hn]
      rw [ZSa, h2] at h
      cases h
    · have h2 : dst e s = .inr (s + e.2) := by unfold dst; rw [if_neg hn]
      rw [ZSa, h2] at h
      have hk : (ZOc t (x + e.1) : Int) ≤ cls := by have := clsF_le t (x + e.1); omega
      have h3 : kst t x cls e s = .inr (s + e.2) := by unfold kst; rw [if_pos hk]
      rw [ZSa, h3]
      exact Zyj hc d _ h
theorem Zxf {d : List RR2} (h : Z9a d = 0) : d.length ≠ 0 ∧ d.length ≤ 64 ∧ ZSa dst ZLc d 0 = 0 := by
  unfold Z9a at h; split at h
  · simp at h
  · exact ⟨by omega, by omega, h⟩
theorem ZQi {t : Lab} (h : Zjb t = 0) (hs : sz 64 t.1) (hl : szR t.2) : GoodT t := by
  unfold Zjb at h; split at h
  · simp at h
  split at h
  · simp at h
  exact ⟨by grind, hs, hl, by omega⟩
def ZFc (t : Lab) (x : Rat) (d : List RR2) (ch : Rat) : Nat := (List.range (t.2.length + 1)).findIdx (fun k : Nat => decide (ch ≤ kF t x d (k : Int)))
theorem Zsk {t : Lab} {x : Rat} {d : List RR2} {ch : Rat} (hd : Z9a d = 0) (hc : ch ≤ 1) : ZFc t x d ch ≤ t.2.length ∧ ch ≤ kF t x d (ZFc t x d ch : Int) ∧ ∀ k, k < ZFc t x d ch → ¬ ch ≤ kF t x d (k : Int) := by
  have hm : ZFc t x d ch < (List.range (t.2.length + 1)).length := List.findIdx_lt_length.2 ⟨t.2.length, List.mem_range.2 (by omega), decide_eq_true (by
    rw [show kF t x d (t.2.length : Int) = 1 from Zyj (Int.le_refl _) d 0 (Zxf hd).2.2]; exact hc)⟩
  have e : (List.range (t.2.length + 1))[ZFc t x d ch]'hm = ZFc t x d ch := List.getElem_range _; have h1 : decide (ch ≤ kF t x d (((List.range (t.2.length + 1))[ZFc t x d ch]'hm : Nat) : Int)) = true := List.findIdx_getElem (w := hm); rw [e] at h1; rw [List.length_range] at hm; refine ⟨by omega, of_decide_eq_true h1, fun k hk => ?_⟩; have h2 := List.not_of_lt_findIdx (xs := List.range (t.2.length + 1)) (p := fun k : Nat => decide (ch ≤ kF t x d (k : Int))) hk; simp only [List.getElem_range] at h2
  simpa using h2
theorem decLoop {t : Lab} (g : GoodT t) {x : Rat} {d : List RR2} {ch : Rat} (hd : Z9a d = 0) (hc : ch ≤ 1) {body : Int → Option (Int ⊕ Int)}
    (hb : ∀ k : Nat, k ≤ t.2.length → body (k : Int) = if kF t x d (k : Int) < ch then some (.inl ((k : Int) + 1)) else some (.inr (k : Int))) : ZZ body Zea 0 = some (ZFc t x d ch : Int) := by
  obtain ⟨h1, h2, h3⟩ := Zsk (t := t) (x := x) hd hc; have hl := g.len; refine Zyd (fun k => (k : Int)) (ZFc t x d ch) rfl (by omega) (fun k hk => ?_) ?_
  · rw [hb k (by omega), if_pos (by have := h3 k hk; grind)]; rfl
  · rw [hb _ h1, if_neg (by grind)]
theorem Zgl {t : Lab} (hs : szR t.2) {d : List RR2} (h : szP d) : Zhf t d = some (if Zjb t ≠ 0 then Zjb t else Z9a d) := by
  unfold Zhf; rw [ZCm hs, Zf]; by_cases c : Zjb t = 0
  · rw [c, if_neg (by simp), show ((0 : Int) != 0) = false from rfl, ZD, Zzo h, Zf]
  · rw [if_pos c, show (Zjb t != 0) = true by simpa using c, ZG]
def kpF (t : Lab) (x : Rat) (d : List RR2) (cls : Int) : Rat × Int :=
  if Zjb t ≠ 0 then (0, Zjb t) else if Z9a d ≠ 0 then (0, Z9a d) else if cls < 0 ∨ (t.2.length : Int) < cls then (0, 1) else (kF t x d cls, 0)
theorem Zoo {t : Lab} (hs : sz 64 t.1) (hl : szR t.2) {x : Rat} (hx : sz 64 x) {d : List RR2} (h : szP d) (cls : Int) : Zhe t x d cls = some (kpF t x d cls) := by
  unfold Zhe kpF; rw [Zgl hl h, Zf]; by_cases c : Zjb t = 0
  · rw [if_neg (fun h => h c), if_neg (fun h => h c)]; by_cases c2 : Z9a d = 0
    · have g := ZQi c hs hl; have := (Zxf c2).2.1; rw [if_neg (fun h => h c2), c2, show ((0 : Int) != 0) = false from rfl, ZD]; by_cases h1 : cls < 0
      · rw [decide_eq_true h1, ZG, Zf, ZG, if_pos (.inl h1)]
      · rw [decide_eq_false h1, ZD, Zf]; by_cases h2 : (t.2.length : Int) < cls
        · rw [decide_eq_true h2, ZG, if_pos (.inr h2)]
        · rw [decide_eq_false h2, ZD, if_neg (by omega), ZIm g hx h (by omega), Zf]
    · rw [if_pos c2, show (Z9a d != 0) = true by simpa using c2, ZG]
  · rw [if_pos c, if_pos c, show (Zjb t != 0) = true by simpa using c, ZG]
def dcF (t : Lab) (x : Rat) (d : List RR2) (ch : Rat) : Int × Int :=
  if Zjb t ≠ 0 then (0, Zjb t) else if Z9a d ≠ 0 then (0, Z9a d) else if ch ≤ 0 ∨ 1 < ch then (0, 1) else ((ZFc t x d ch : Int), 0)
theorem ZHl {t : Lab} (hs : sz 64 t.1) (hl : szR t.2) {x : Rat} (hx : sz 64 x) {d : List RR2} (h : szP d) {ch : Rat} (hch : sz 64 ch) : ZKf t x d ch = some (dcF t x d ch) := by
  unfold ZKf dcF; rw [Zgl hl h, Zf]; by_cases c : Zjb t = 0
  · rw [if_neg (fun h => h c), if_neg (fun h => h c)]; by_cases c2 : Z9a d = 0
    · have g := ZQi c hs hl; have := (Zxf c2).2.1; have lk := g.len; rw [if_neg (fun h => h c2), c2, show ((0 : Int) != 0) = false from rfl, ZD, abv1, Zf, ZBk]; by_cases h1 : ch ≤ 0
      · rw [decide_eq_true h1, ZG, Zf, ZG, if_pos (.inl h1)]
      · rw [decide_eq_false h1, ZD, Zwl, Zf, Zjf hch (show sz 1 ((1 : Int) : Rat) from Z3i) (by omega), Zf, Zf, decide_eq_decide.2 ZJm]; by_cases h2 : (1 : Rat) < ch
        · rw [decide_eq_true (show ((1 : Int) : Rat) < ch from h2), ZG, if_pos (.inr h2)]
        · rw [decide_eq_false (show ¬ ((1 : Int) : Rat) < ch from h2), ZD, if_neg (fun h => h.elim h1 h2)]; refine Zab (Zab (decLoop (x := x) (ch := ch) g c2 (by grind) (fun k hk => ?_)) rfl) rfl; simp only; rw [ZIm g hx h (by omega), Zf, Zjf (kF_sz h (by omega)) hch (by omega), Zf, decide_eq_decide.2 Zkl]; by_cases h3 : kF t x d (k : Int) < ch
          · rw [decide_eq_true h3, ZG, if_pos h3, Zha (by omega) (by omega), Zf]
          · rw [decide_eq_false h3, ZD, if_neg h3]
    · rw [if_pos c2, show (Z9a d != 0) = true by simpa using c2, ZG]
  · rw [if_pos c, if_pos c, show (Zjb t != 0) = true by simpa using c, ZG]
theorem Zop {t : Lab} (hs : sz 64 t.1) (hl : szR t.2) {x : Rat} (hx : sz 64 x) : ZLf t x = some (if Zjb t ≠ 0 then (0, Zjb t) else ((ZOc t x : Int), 0)) := by
  unfold ZLf; rw [ZCm hl, Zf]; by_cases c : Zjb t = 0
  · rw [if_neg (fun h => h c), c, show ((0 : Int) != 0) = false from rfl, ZD, ZXk (ZQi c hs hl) hx (by omega), Zf]
  · rw [if_pos c, show (Zjb t != 0) = true by simpa using c, ZG]
theorem ZMi {α : Type} {b : Nat} {l : List α} (h : l.length * b ≤ 140737488355328) : ZZa b l = some () := by unfold ZZa; rw [if_pos h]
theorem takeS {α β : Type} (f : α → β) (l : List α) {k : Nat} (h : k < l.length) : (l.take (k + 1)).map f = (l.take k).map f ++ [f l[k]] := by
  rw [List.take_succ_eq_append_getElem h, List.map_append]; rfl
theorem Zvp (l : List (Int × Int)) (hl : l.length * 56 ≤ 140737488355328) : Zah l = some (l.map ZNa, l.map ZNa) := by
  unfold Zah ZJb Z8c; refine Zab (y := (l.map ZNa, l.map ZNa)) (Zab (y := (l.map ZNa, l.map ZNa)) (Zyd (fun k => ((l.take k).map ZNa, (l.take k).map ZNa, (k : Int))) l.length rfl (by omega) (fun k hk => ?_) ?_) rfl) rfl
  · have e := takeS ZNa l hk; have hlen : ((l.take k).map ZNa).length = k := by simp; omega
    have hroom : ∀ x, ZZa 56 ((l.take k).map ZNa ++ [x]) = some () := fun x => ZMi (by rw [List.length_append, hlen, List.length_singleton]; have := Nat.mul_le_mul_right 56 (show k + 1 ≤ l.length by omega); omega); simp only; rw [decide_eq_true (by omega), ZG, Z6 hk, Zf, Zf, hroom, Zf, Zf, hroom, Zf, Zha (by omega) (by omega), Zf, e]; rfl
  · simp only; rw [decide_eq_false (by omega), ZD, List.take_length]
theorem Zap (st : Int × Int) (l : List (Int × Int)) (hl : l.length * 56 ≤ 140737488355328) : Zwf st l = some ((ZNa st, l.map ZNa), (ZNa st, l.map ZNa)) := by
  unfold Zwf ZJb Z8c; rw [Zvp l hl, Zf, Zf, Zf]
theorem Z0o (l : List ((Int × Int) × (Int × Int))) (hl : l.length * 112 ≤ 140737488355328) : Zyg l = some (ZRb l, ZRb l) := by
  unfold Zyg ZJb Z8c; refine Zab (y := (ZRb l, ZRb l)) (Zab (y := (ZRb l, ZRb l)) (Zyd (fun k => (ZRb (l.take k), ZRb (l.take k), (k : Int))) l.length rfl (by omega) (fun k hk => ?_) ?_) rfl) rfl
  · have e : ZRb (l.take (k + 1)) = ZRb (l.take k) ++ [(ZNa l[k].1, ZNa l[k].2)] := takeS _ _ hk; have hlen : (ZRb (l.take k)).length = k := by unfold ZRb; simp; omega
    have hroom : ∀ x, ZZa 112 (ZRb (l.take k) ++ [x]) = some () := fun x => ZMi (by rw [List.length_append, hlen, List.length_singleton]; have := Nat.mul_le_mul_right 112 (show k + 1 ≤ l.length by omega); omega); simp only; rw [decide_eq_true (by omega), ZG, Z6 hk, Zf, Zf, Zf, hroom, Zf, Zf, Zf, hroom, Zf, Zha (by omega) (by omega), Zf, e]; rfl
  · simp only; rw [decide_eq_false (by omega), ZD, List.take_length]
theorem ZWo {l : List ((Int × Int) × (Int × Int))} (h : ∀ x ∈ l, i64 x.1 ∧ i64 x.2) : szP (ZRb l) := fun i hi => by
  have hi' : i < l.length := by
    have : (ZRb l).length = l.length := List.length_map ..; omega
  have e : (ZRb l)[i] = (ZNa l[i].1, ZNa l[i].2) := List.getElem_map ..; rw [e]; have := h _ (List.getElem_mem hi'); exact ⟨ZTe this.1, ZTe this.2⟩
theorem szR_map {l : List (Int × Int)} (h : ∀ x ∈ l, i64 x) : szR (l.map ZNa) := fun i hi => by
  rw [List.getElem_map]
  exact ZTe (h _ (List.getElem_mem _))
noncomputable def Z8h (step : (Int × Int)) (x : (Int × Int)) (l : ((List ((Int × Int) × (Int × Int))) × (List ((Int × Int) × (Int × Int))))) (turn : Int) (lower : (Int × Int)) (higher : (Int × Int)) : Option (Bool) :=
 bnd (bnd (ZZ (fun s : (List (Int × Int)) × Int => match s with
 | (h, i) =>
 (ifb (decide (i < (l.1.length : Int)))
 (bnd (idx l.1 i) fun e =>
 bnd (ZZa 16 (h ++ [(e.1.1, e.1.2)])) fun ak =>
 bnd (chk .i64 (i + ((1 : Int)))) fun w =>
 some (.inl (((h ++ [(e.1.1, e.1.2)]), w))))
 (some (.inr h)))) Zea ((([] : (List (Int × Int))), (0 : Int))))
 (fun (y : (List (Int × Int))) =>
 (some y)))
 (fun (j : (List (Int × Int))) =>
 (bnd (Zwf ((step.1, step.2)) j) fun a =>
 bnd (Zyg l.2) fun b =>
 bnd (ifb (decide ((15 : Int) < (j.length : Int)))
 (some true)
 (ifb (decide ((30 : Int) < (b.1.length : Int)))
 (some true)
 (bnd (Zbg ((a.2.1, a.2.2))) fun z =>
 ifb (z != ((0 : Int)))
 (some true)
 (bnd (Znh b.2) fun A =>
 some (A != ((0 : Int)))))))
 (fun (B : Bool) =>
 (ifb (B)
 (bnd (Z2d ) fun C =>
 some C)
 (bnd (ZJb ((x.1, x.2))) fun c =>
 bnd (bnd (ZZ (fun s : (List (Rat × Rat)) × Int => match s with
 | (k, m) =>
 (ifb (decide (m < (b.1.length : Int)))
 (bnd (chk .i64 (m + (IntKind.i64.wrap turn))) fun D =>
 bnd (rem .i64 D ((b.1.length : Int))) fun E =>
 bnd (idx b.1 E) fun f =>
 bnd (ZZa 112 (k ++ [(f.1, f.2)])) fun al =>
 bnd (chk .i64 (m + ((1 : Int)))) fun F =>
 some (.inl (((k ++ [(f.1, f.2)]), F))))
 (some (.inr k)))) Zea ((([] : (List (Rat × Rat))), (0 : Int))))
 (fun (G : (List (Rat × Rat))) =>
 (some G)))
 (fun (H : (List (Rat × Rat))) =>
 (bnd (ZLf ((a.1.1, a.1.2)) c) fun n =>
 ifb (n.2 != ((0 : Int)))
 (some false)
 (bnd (Z4b ((0 : Int))) fun I =>
 bnd (bnd (ZZ (fun s : (List (Rat × Rat)) × Rat × Int => match s with
 | (o, q, d) =>
 (ifb (decide (d ≤ (j.length : Int)))
 (bnd (Zhe ((a.1.1, a.1.2)) c b.1 d) fun g =>
 bnd (Zhe ((a.1.1, a.1.2)) c o d) fun r =>
 bnd (bnd (Z4b ((1 : Int))) fun J =>
 bnd (Zhe ((a.1.1, a.1.2)) c ([((0 : Rat), J)]) d) fun t =>
 some ((t.1, t.2)))
 (fun (p : Rat × Int) => match p with
 | (K, L) =>
 (bnd (Z4b ((0 : Int))) fun M =>
 bnd (ifb (decide (n.1 ≤ d))
 (bnd (Z4b ((1 : Int))) fun N =>
 some N)
 (some M))
 (fun (O : Rat) =>
 (bnd (ifb ((max (max g.2 r.2) L) != ((0 : Int)))
 (some true)
 (bnd (ZDc g.1 q) fun P =>
 ifb (decide (P < (0 : Int)))
 (some true)
 (bnd (Zae g.1 r.1) fun Q =>
 ifb (!(Q))
 (some true)
 (bnd (Zae K O) fun R =>
 some (!(R))))))
 (fun (S : Bool) =>
 (ifb (S)
 (some (.inr ((.inl false))))
 (bnd (chk .i64 (d + ((1 : Int)))) fun T =>
 some (.inl ((o, g.1, T)))))))))))
 (some (.inr ((.inr q)))))) Zea ((H, I, (0 : Int))))
 (fun (p : (Bool) ⊕ (Rat)) => match p with
 | .inl U =>
 (some ((.inr U)))
 | .inr V =>
 (some ((.inl V)))))
 (fun (p : (Rat) ⊕ (Bool)) => match p with
 | .inl W =>
 (bnd (ZJb ((lower.1, lower.2))) fun X =>
 bnd (ZKf ((a.1.1, a.1.2)) c b.1 X) fun u =>
 bnd (ZJb ((higher.1, higher.2))) fun Y =>
 bnd (ZKf ((a.1.1, a.1.2)) c b.1 Y) fun v =>
 bnd (bnd (Z4b ((1 : Int))) fun Z =>
 bnd (Zae W Z) fun aa =>
 ifb (aa)
 (ifb (u.2 != ((0 : Int)))
 (bnd (Z2d ) fun ab =>
 some ab)
 (ifb (v.2 != ((0 : Int)))
 (bnd (Z2d ) fun ac =>
 some ac)
 (bnd (ZJb ((lower.1, lower.2))) fun ad =>
 bnd (ZJb ((higher.1, higher.2))) fun ae =>
 bnd (ZDc ad ae) fun af =>
 ifb (decide ((0 : Int) < af))
 (bnd (Z2d ) fun ag =>
 some ag)
 (ifb (decide (u.1 ≤ v.1))
 (bnd (Z2d ) fun ah =>
 some ah)
 (some false)))))
 (some false))
 (fun (ai : Bool) =>
 (some ai)))
 | .inr aj =>
 (some aj))))))))))
set_option maxRecDepth 100000
def ZUb (f : RR2 → Rat) : List RR2 → Rat
  | [] => 0
  | e :: d => f e + ZUb f d
theorem ZFm {f : RR2 → Rat} {d d' : List RR2} (h : d.Perm d') : ZUb f d = ZUb f d' := by
  induction h with
  | nil => rfl
  | cons x _ ih => simp only [ZUb, ih]
  | swap x y l => simp only [ZUb]; grind
  | trans _ _ h1 h2 => exact h1.trans h2
def cst (t : Lab) (x : Rat) (cls : Int) (e : RR2) : Rat := if (ZOc t (x + e.1) : Int) ≤ cls then e.2 else 0
theorem Zfl (t : Lab) (x : Rat) (cls : Int) : ∀ (d : List RR2) (s : Rat), ZSa (kst t x cls) id d s = s + ZUb (cst t x cls) d
  | [], s => by show s = s + 0; grind
  | e :: d, s => by
    rw [ZSa]
    show ZSa (kst t x cls) id d (if (ZOc t (x + e.1) : Int) ≤ cls then s + e.2 else s) = _
    rw [Zfl t x cls d]
    simp only [ZUb, cst]
    split <;> grind
theorem ZOf (t : Lab) (x : Rat) (d : List RR2) (cls : Int) : kF t x d cls = ZUb (cst t x cls) d := by unfold kF; rw [Zfl]; grind
theorem Z4g : ∀ (d : List RR2) (s : Rat), ZSa dst ZLc d s = if d.any (fun e => decide (e.2 < 0)) then 1 else ZLc (s + ZUb (·.2) d)
  | [], s => by show ZLc s = ZLc (s + 0); congr 1; grind
  | e :: d, s => by
    by_cases hn : e.2 < 0
    · have h2 : dst e s = .inl 1 := by unfold dst; rw [if_pos hn]
      rw [ZSa, h2, List.any_cons, decide_eq_true hn]; rfl
    · have h2 : dst e s = .inr (s + e.2) := by unfold dst; rw [if_neg hn]
      rw [ZSa, h2, List.any_cons, decide_eq_false hn, Bool.false_or]
      show ZSa dst ZLc d (s + e.2) = _
      rw [Z4g d]
      simp only [ZUb]
      rw [show s + e.2 + ZUb (fun x => x.2) d = s + (e.2 + ZUb (fun x => x.2) d) by grind]
theorem Zfq {d d' : List RR2} (h : d.Perm d') : Z9a d = Z9a d' := by
  unfold Z9a; rw [h.length_eq, Z4g, Z4g, ZFm h]; have : d.any (fun e => decide (e.2 < 0)) = d'.any (fun e => decide (e.2 < 0)) := by
    rw [Bool.eq_iff_iff, List.any_eq_true, List.any_eq_true]; exact ⟨fun ⟨x, hx, h1⟩ => ⟨x, h.mem_iff.1 hx, h1⟩, fun ⟨x, hx, h1⟩ => ⟨x, h.mem_iff.2 hx, h1⟩⟩
  rw [this]
theorem kF_perm {t : Lab} {x : Rat} {d d' : List RR2} {cls : Int} (h : d.Perm d') : kF t x d cls = kF t x d' cls := by rw [ZOf, ZOf, ZFm h]
theorem ZDk {d : List RR2} (h : Z9a d = 0) : ∀ e ∈ d, 0 ≤ e.2 := by
  have := (Zxf h).2.2; rw [Z4g] at this; split at this
  · cases this
  · rename_i hn; intro e he; have hn' : d.any (fun e => decide (e.2 < 0)) = false := by simpa using hn
    have := List.any_eq_false.1 hn' e he; have h2 : ¬ e.2 < 0 := by simpa using this
    grind
theorem Z2j {f g : RR2 → Rat} : ∀ {d : List RR2}, (∀ e ∈ d, f e ≤ g e) → ZUb f d ≤ ZUb g d
  | [], _ => Rat.le_refl
  | e :: d, h => by
    have h1 := h e List.mem_cons_self
    have h2 := Z2j (d := d) (fun x hx => h x (List.mem_cons_of_mem _ hx))
    simp only [ZUb]
    grind
theorem ZDl : ∀ (d : List RR2), ZUb (fun _ => 0) d = 0
  | [] => rfl
  | e :: d => by simp only [ZUb, ZDl d]; grind
theorem kF_mono {t : Lab} {x : Rat} {d : List RR2} (hd : Z9a d = 0) {a b : Int} (h : a ≤ b) : kF t x d a ≤ kF t x d b := by
  rw [ZOf, ZOf]; refine Z2j fun e he => ?_; have := ZDk hd e he; unfold cst; split
  · rw [if_pos (by omega)]; exact Rat.le_refl
  · split
    · exact this
    · exact Rat.le_refl
theorem ZNq {t : Lab} {x : Rat} {d : List RR2} (hd : Z9a d = 0) {a : Int} : 0 ≤ kF t x d a := by
  rw [ZOf, ← ZDl d]; refine Z2j fun e he => ?_; have := ZDk hd e he; unfold cst; split
  · exact this
  · exact Rat.le_refl
theorem ZGn {t : Lab} {x : Rat} {d : List RR2} {c c' : Rat} (hd : Z9a d = 0) (h : c ≤ c') (h1 : c' ≤ 1) : ZFc t x d c ≤ ZFc t x d c' := by
  obtain ⟨_, a2, a3⟩ := Zsk (t := t) (x := x) (ch := c) hd (Rat.le_trans h h1); obtain ⟨_, b2, b3⟩ := Zsk (t := t) (x := x) (ch := c') hd h1; rcases Nat.lt_or_ge (ZFc t x d c') (ZFc t x d c) with hh | hh
  · exact absurd (Rat.le_trans h b2) (a3 _ hh)
  · exact hh
def Zbd (d : List RR2) (turn : Nat) : List RR2 := d.drop (turn % d.length) ++ d.take (turn % d.length)
theorem Zlq (d : List RR2) (turn : Nat) : (Zbd d turn).Perm d := by
  have h := List.perm_append_comm (l₁ := d.drop (turn % d.length)) (l₂ := d.take (turn % d.length)); rw [List.take_append_drop] at h; exact h
theorem ZQq? {d : List RR2} {turn i : Nat} (hi : i < d.length) : (Zbd d turn)[i]? = d[(i + turn) % d.length]? := by
  have h0 : 0 < d.length := by omega
  have hk := Nat.mod_lt turn h0; have hl : (d.drop (turn % d.length)).length = d.length - turn % d.length := List.length_drop ..; unfold Zbd; by_cases hc : i < d.length - turn % d.length
  · have e : (i + turn) % d.length = turn % d.length + i := by
      rw [Nat.add_mod, Nat.mod_eq_of_lt hi, Nat.mod_eq_of_lt (by omega)]; omega
    rw [List.getElem?_append_left (by omega), List.getElem?_drop, e]
  · have e : (i + turn) % d.length = i - (d.length - turn % d.length) := by
      rw [Nat.add_mod, Nat.mod_eq_of_lt hi, Nat.mod_eq_sub_mod (by omega), Nat.mod_eq_of_lt (by omega)]; omega
    rw [List.getElem?_append_right (by omega), hl, List.getElem?_take_of_lt (by omega), e]
theorem ZNo {d d' : List RR2} (h : d.Perm d') (hd : szP d) : szP d' := fun i hi => by
  have hm : d'[i] ∈ d := h.mem_iff.2 (List.getElem_mem hi)
  obtain ⟨j, hj, e⟩ := List.getElem_of_mem hm
  rw [← e]; exact hd j hj
def Zqi (K : Int → Rat) : Nat → Rat
  | 0 => 0
  | k + 1 => K (k : Int)
theorem ZMo (step x : Int × Int) (l : List ((Int × Int) × (Int × Int)) × List ((Int × Int) × (Int × Int))) (turn : Int) (lower higher : Int × Int) (h1 : i64 step) (h2 : i64 x) (ht : 0 ≤ turn ∧ turn ≤ 255) (h3 : i64 lower) (h4 : i64 higher) (hl1 : ∀ y ∈ l.1, i64 y.1 ∧ i64 y.2) (hl2 : ∀ y ∈ l.2, i64 y.1 ∧ i64 y.2) (n1 : l.1.length ≤ 1048576) (n2 : l.2.length ≤ 1048576) :
    Z8h step x l turn lower higher = some true := by
  unfold Z8h; rw [Zkq]; refine Zab (y := l.1.map fun p => p.1) (Zab (y := l.1.map fun p => p.1) (Zyd (fun k => ((l.1.take k).map fun p => p.1, (k : Int))) l.1.length rfl (by omega) (fun k hk => ?_) ?_) rfl) ?_
  · have e := takeS (fun p : (Int × Int) × (Int × Int) => p.1) l.1 hk; have hlen' : ((l.1.take k).map fun p : (Int × Int) × (Int × Int) => p.1).length = k := by simp; omega
    have hroom : ∀ x, ZZa 16 (((l.1.take k).map fun p : (Int × Int) × (Int × Int) => p.1) ++ [x]) = some () := fun x => ZMi (by rw [List.length_append, hlen', List.length_singleton]; omega); simp only; rw [decide_eq_true (by omega), ZG, Z6 hk, Zf, hroom, Zf, Zha (by omega) (by omega), Zf, e]; rfl
  · simp only; rw [decide_eq_false (by omega), ZD, List.take_length]
  have ll : (l.1.map fun p => p.1).length = l.1.length := List.length_map ..; have hL : ∀ y ∈ (l.1.map fun p => p.1), i64 y := fun y hy => by
    obtain ⟨z, hz, rfl⟩ := List.mem_map.1 hy; exact (hl1 z hz).1
  generalize (l.1.map fun p => p.1) = L at *; rw [Zap _ _ (by omega), Zf, Z0o _ (by omega), Zf]; unfold ZJb; simp only [Zf]; have a1 : sz 64 (ZNa (step.1, step.2)) := ZTe h1; have a2 : sz 64 (ZNa (x.1, x.2)) := ZTe h2; have a3 : sz 64 (ZNa (lower.1, lower.2)) := ZTe h3; have a4 : sz 64 (ZNa (higher.1, higher.2)) := ZTe h4; have aL : szR (L.map ZNa) := szR_map hL; have aD : szP (ZRb l.2) := ZWo hl2; have lD : (ZRb l.2).length = l.2.length := List.length_map ..; have lL : (L.map ZNa).length = L.length := List.length_map ..; generalize ZNa (step.1, step.2) = S at *; generalize ZNa (x.1, x.2) = X at *; generalize ZNa (lower.1, lower.2) = C at *; generalize ZNa (higher.1, higher.2) = C' at *; generalize ZRb l.2 = D at *; rw [← lL]; generalize L.map ZNa = M at *; rw [Z8p (t := (S, M)) aL, ZJo aD]; by_cases k1 : 15 < M.length
  · rw [decide_eq_true (by omega), ZG, Zf, ZG]
  rw [decide_eq_false (by omega), ZD]; by_cases k2 : 30 < D.length
  · rw [decide_eq_true (by omega), ZG, Zf, ZG]
  rw [decide_eq_false (by omega), ZD]; simp only [Zf]; rcases Decidable.em (Zjb (S, M) ≠ 0) with c | c
  · have b2 : (Zjb (S, M) != 0) = true := by simpa using c
    rw [b2, ZG, Zf, ZG]
  have c := Decidable.not_not.1 c; rcases Decidable.em (Z9a D ≠ 0) with c2 | c2
  · have b2 : (Z9a D != 0) = true := by simpa using c2
    have b3 : (Zjb (S, M) != 0) = false := by simpa using c
    rw [b3, ZD, b2, Zf, ZG]
  have c2 := Decidable.not_not.1 c2; have b0 : ((0 : Int) != 0) = false := rfl; rw [c, c2, b0, ZD, Zf, ZD]; have g := ZQi c a1 aL; obtain ⟨d0, _, _⟩ := Zxf c2; have hP := Zlq D turn.toNat; have lR := hP.length_eq; have cR : Z9a (Zbd D turn.toNat) = 0 := by rw [Zfq hP]; exact c2
  have zR : szP (Zbd D turn.toNat) := ZNo hP.symm aD; refine Zab (y := Zbd D turn.toNat) (Zab (y := Zbd D turn.toNat) (Zyd (fun k => ((Zbd D turn.toNat).take k, (k : Int))) D.length rfl (by omega) (fun k hk => ?_) ?_) rfl) ?_
  · have wr : IntKind.i64.wrap turn = turn := ZIe (ZIb.2 ⟨by omega, by omega⟩); have hm := Nat.mod_lt (k + turn.toNat) (show 0 < D.length by omega); have e1 : (k : Int) + turn = ((k + turn.toNat : Nat) : Int) := by omega
    have hg := ZQq? (d := D) (turn := turn.toNat) hk; have hkR : k < (Zbd D turn.toNat).length := by omega
    have e2 : (Zbd D turn.toNat)[k] = D[(k + turn.toNat) % D.length] := by
      rw [List.getElem?_eq_getElem hkR, List.getElem?_eq_getElem hm] at hg; exact Option.some.inj hg
    have hroom : ∀ x, ZZa 112 ((Zbd D turn.toNat).take k ++ [x]) = some () := fun x => ZMi (by rw [List.length_append, List.length_take, List.length_singleton]; omega); simp only; rw [decide_eq_true (by omega), ZG, wr, Zha (by omega) (by omega), Zf, e1, Zje (by omega), Zf, Z6 hm, Zf, hroom, Zf, Zha (by omega) (by omega), Zf, List.take_succ_eq_append_getElem hkR, e2]; rfl
  · simp only; rw [decide_eq_false (by omega), ZD, List.take_of_length_le (by omega)]
  generalize Zbd D turn.toNat = R at *; rw [Zop (t := (S, M)) a1 aL a2]; have kp : ∀ {d : List RR2}, szP d → Z9a d = 0 → ∀ k : Nat, k ≤ M.length → Zhe (S, M) X d (k : Int) = some (kF (S, M) X d (k : Int), 0) := fun {d} hd h0 k hk => by
    rw [Zoo (t := (S, M)) a1 aL a2 hd]; unfold kpF; rw [if_neg (fun h => h c), if_neg (fun h => h h0), if_neg (by have : ((S, M) : Lab).2.length = M.length := rfl; omega)]
  simp only [Zf, c, ne_eq, not_true_eq_false, if_false, b0, ZD]; have i0 : Z4b (0 : Int) = some 0 := rfl; have i1 : Z4b (1 : Int) = some 1 := rfl; have zU : szP [((0 : Rat), (1 : Rat))] := fun i hi => by
    obtain rfl : i = 0 := by simpa using hi
    exact ⟨Z3e.mono (by omega), Z3i.mono (by omega)⟩
  have cU : Z9a [((0 : Rat), (1 : Rat))] = 0 := by
    unfold Z9a; rw [if_neg (by simp), Z4g]; have e1 : ([((0 : Rat), (1 : Rat))].any fun e => decide (e.2 < 0)) = false := by
      have : ¬ (1 : Rat) < 0 := by grind
      simp [this]
    rw [e1]; have e2 : (0 : Rat) + ZUb (fun x => x.2) [((0 : Rat), (1 : Rat))] = 1 := by
      show (0 : Rat) + ((1 : Rat) + 0) = 1; grind
    rw [e2]; rfl
  have kU : ∀ k : Int, kF (S, M) X [((0 : Rat), (1 : Rat))] k = if (ZOc (S, M) X : Int) ≤ k then 1 else 0 := fun k => by
    rw [ZOf]; simp only [ZUb, cst]; rw [show X + 0 = X by grind]; split <;> grind
  have qs : ∀ x y : Rat, Zae x y = some (decide (x = y)) := fun _ _ => rfl; have hMl : ((S, M) : Lab).2.length = M.length := rfl; have lastZ : ∀ k : Nat, sz 5300 (Zqi (kF (S, M) X D) k) := fun k => by
    cases k with
    | zero => exact Z3e.mono (by omega)
    | succ k => exact kF_sz aD (by omega)
  rw [i0, Zf]; refine Zab (y := .inl (1 : Rat)) (Zab (y := .inr (1 : Rat)) (Zyd (fun k => (R, Zqi (kF (S, M) X D) k, (k : Int))) (M.length + 1) rfl (by omega) (fun k hk => ?_) ?_) rfl) ?_
  · have e1 := kp aD c2 k (by omega); have e2 := kp zR cR k (by omega); have e3 := kp zU cU k (by omega); simp only; rw [decide_eq_true (by omega), ZG, e1, Zf, e2, Zf, i1]; simp only [Zf]; rw [e3]; simp only [Zf]; refine Zab (y := if (ZOc (S, M) X : Int) ≤ (k : Int) then (1 : Rat) else 0) ?_ ?_
    · by_cases hc : (ZOc (S, M) X : Int) ≤ (k : Int)
      · rw [decide_eq_true hc, ZG, if_pos hc]
      · rw [decide_eq_false hc, ZD, if_neg hc]
    · have mx : (max (max (0 : Int) 0) 0 != 0) = false := rfl; have hle : Zqi (kF (S, M) X D) k ≤ kF (S, M) X D (k : Int) := by
        cases k with
        | zero => exact ZNq c2
        | succ k => exact kF_mono c2 (by omega)
      rw [mx, ZD, Zjf (kF_sz aD (by omega)) (lastZ k) (by omega), Zf, decide_eq_decide.2 Zkl, decide_eq_false (show ¬ kF (S, M) X D (k : Int) < Zqi (kF (S, M) X D) k by grind), ZD, kU, kF_perm hP, qs, Zf, decide_eq_true rfl, Bool.not_true, ZD, qs, Zf, decide_eq_true rfl, Bool.not_true, Zf, ZD, Zha (by omega) (by omega), Zf]; rfl
  · simp only; rw [decide_eq_false (by omega), ZD]; show some (Sum.inr (Sum.inr (kF (S, M) X D (M.length : Int)))) = _; rw [show kF (S, M) X D (M.length : Int) = 1 from Zyj (Int.le_refl _) D 0 (Zxf c2).2.2]
  simp only; rw [ZHl (t := (S, M)) a1 aL a2 aD a3, ZHl (t := (S, M)) a1 aL a2 aD a4, i1]; simp only [Zf]; rw [qs]; simp only [Zf]; rw [show decide True = true from rfl, ZG, Zjf a3 a4 (by omega)]; simp only [Zf]; unfold dcF; simp only [c, c2, ne_eq, not_true_eq_false, if_false]; by_cases q1 : C ≤ 0 ∨ 1 < C
  · rw [if_pos q1]; rfl
  rw [if_neg q1]; simp only [b0, ZD]; by_cases q2 : C' ≤ 0 ∨ 1 < C'
  · rw [if_pos q2]; rfl
  rw [if_neg q2]; simp only [b0, ZD]; rw [decide_eq_decide.2 (ZJm (x := C) (y := C'))]; by_cases q3 : C' < C
  · rw [decide_eq_true q3, ZG, Zf]
  · have hmono := ZGn (t := (S, M)) (x := X) (c := C) (c' := C') c2 (by grind) (by grind); rw [decide_eq_false q3, ZD, decide_eq_true (by omega), ZG, Zf]
theorem ZRm {α : Type} {A : Rep α} {v : Zd} {cs : List Value} {l : List α} (h : (Zt A).rel v cs l) {x : α} (hx : x ∈ l) : ∃ c, A.rel v c x := by
  obtain ⟨q, cap, rfl, h1, h2, h3⟩ := h; rcases h3 with rfl | ⟨b, off, c, T, fr, e, hb, hr⟩
  · cases hx
  · obtain ⟨i, hi, rfl⟩ := List.getElem_of_mem hx; exact ⟨_, ZIa hr (List.getElem?_eq_getElem hi)⟩
theorem Zee {v : Zd} {c : List Value} {r : Int × Int} (h : Rep.rel (Zs (Za .i64) (Za .i64)) v c r) : i64 r := by
  obtain ⟨c1, c2, _, ⟨_, h1⟩, _, h2⟩ := h; exact ⟨ZIb.1 h1, ZIb.1 h2⟩
end Go.Eng
namespace Go.Eng
open Go.RowKit
theorem Zg {α : Type _} {a b : α} (h : some a = some b) : a = b := Option.some.inj h
theorem Zy (b : Bool) : b = true ∨ b = false := (Bool.eq_false_or_eq_true b)
theorem leT {a b c : Zd} (h : a.le b) (k : b.le c) : a.le c := Zd.le_trans h k
theorem leR (v : Zd) : v.le v := Zd.le_refl v
theorem Zm {P : Program} {Q : Exit → Act → World → Prop} {a : Act} {w : World} {id : Nat} {l : List Oper} (h : wpList P l.toArray Q l a w) : (Code.region id l.toArray false).wp P Q a w := wp_region_lit h
theorem Zh {P : Program} {Q : Exit → Act → World → Prop} {a : Act} {w : World} {x y : Code} (h : ∀ K : Act → World → Prop, (∀ a w, y.wp P Q a w → K a w) → x.wp P (Exit.then K Q) a w) : (Code.seq x y).wp P Q a w := wp_seq_k h
theorem Zo {α : Type} {A : Rep α} {v v' : Zd} {cs : List Value} {x : α} (hv : v.le v') (h : A.rel v cs x) : A.rel v' cs x := A.mono hv h
theorem Zpa {α : Type} (A : Rep α) {v : Zd} {cs : List Value} {x : α} (h : A.rel v cs x) : cs.all ZYa = true := A.flat h
theorem Atm {v v' : Zd} {b off : Nat} {cs : List Value} (h : v.le v') (k : At v b off cs) : At v' b off cs := At.mono h k
end Go.Eng
namespace Go.Eng
open Go.Proofs Go.RowKit
theorem ZUl : Z0f Tryz.prog 291 20 1 := ⟨5, fun _ => by kernel_rfl, fun _ => by kernel_rfl⟩
theorem ZCb : Z0f Tryz.prog 51 3 2 := ⟨50, fun _ => by kernel_rfl, fun _ => by kernel_rfl⟩
theorem ZEl : Z0f Tryz.prog 95 2 1 := ⟨94, fun _ => by kernel_rfl, fun _ => by kernel_rfl⟩
theorem Zmd : Zqe Tryz.prog 211 212 .u64 .u32 := fun _ _ => by kernel_rfl
theorem Zxm : Zqe Tryz.prog 211 5 .u64 .u8 := fun _ _ => by kernel_rfl
theorem Zym : Zqe Tryz.prog 212 2 .u32 .i64 := fun _ _ => by kernel_rfl
theorem ZBc : Zqe Tryz.prog 212 211 .u32 .u64 := fun _ _ => by kernel_rfl
theorem ZOi : Zqe Tryz.prog 2 211 .i64 .u64 := fun _ _ => by kernel_rfl
theorem ZRo : Zqe Tryz.prog 2 212 .i64 .u32 := fun _ _ => by kernel_rfl
theorem Ztj : Zqe Tryz.prog 3 253 .i64 .u64 := fun _ _ => by kernel_rfl
theorem Zrl : Zqe Tryz.prog 5 3 .u8 .i64 := fun _ _ => by kernel_rfl
theorem Z5e : Elem Tryz.prog 105 120 6 112 (Value.agg #[Value.bool false, Value.slice none 0 0, Value.slice none 0 0, Value.bool false, Value.slice none 0 0, Value.slice none 0 0]) := ⟨Tryz.underlying105, by kernel_rfl, rfl, by decide⟩
theorem ZVm : Elem Tryz.prog 106 205 6 112 (Value.agg #[Value.bool false, Value.slice none 0 0, Value.slice none 0 0, Value.bool false, Value.slice none 0 0, Value.slice none 0 0]) := ⟨Tryz.underlying106, by kernel_rfl, rfl, by decide⟩
theorem ZTm : Elem Tryz.prog 263 9 1 16 (Value.string (Zsa [])) := ⟨Tryz.underlying263, by kernel_rfl, rfl, by decide⟩
theorem ZRg : Elem Tryz.prog 28 3 1 8 (Value.int IntKind.i64 0) := ⟨Tryz.underlying28, by kernel_rfl, rfl, by decide⟩
theorem ZGc : Elem Tryz.prog 30 211 1 8 (Value.int IntKind.u64 0) := ⟨Tryz.underlying30, by kernel_rfl, rfl, by decide⟩
theorem Zzb : Elem Tryz.prog 40 212 1 4 (Value.int IntKind.u32 0) := ⟨Tryz.underlying40, by kernel_rfl, rfl, by decide⟩
theorem ZMf : Elem Tryz.prog 80 34 3 56 (Value.agg #[Value.bool false, Value.slice none 0 0, Value.slice none 0 0]) := ⟨Tryz.underlying80, by kernel_rfl, rfl, by decide⟩
theorem ZYl : Elem Tryz.prog 85 42 3 56 (Value.agg #[Value.bool false, Value.slice none 0 0, Value.slice none 0 0]) := ⟨Tryz.underlying85, by kernel_rfl, rfl, by decide⟩
theorem Zel : Elem Tryz.prog 96 50 2 16 (Value.agg #[Value.int IntKind.i64 0, Value.int IntKind.i64 0]) := ⟨Tryz.underlying96, by kernel_rfl, rfl, by decide⟩
theorem k_en100 : ZR Tryz.prog 100 := fun _ _ => by kernel_rfl
theorem Zde : ZR Tryz.prog 101 := fun _ _ => by kernel_rfl
theorem Zrh : ZR Tryz.prog 102 := fun _ _ => by kernel_rfl
theorem Z8f : ZR Tryz.prog 103 := fun _ _ => by kernel_rfl
theorem Zzd : ZR Tryz.prog 104 := fun _ _ => by kernel_rfl
theorem k_en105 : ZR Tryz.prog 105 := fun _ _ => by kernel_rfl
theorem k_en106 : ZR Tryz.prog 106 := fun _ _ => by kernel_rfl
theorem k_en107 : ZR Tryz.prog 107 := fun _ _ => by kernel_rfl
theorem k_en108 : ZR Tryz.prog 108 := fun _ _ => by kernel_rfl
theorem k_en109 : ZR Tryz.prog 109 := fun _ _ => by kernel_rfl
theorem ZKe : ZR Tryz.prog 110 := fun _ _ => by kernel_rfl
theorem ZJj : ZR Tryz.prog 111 := fun _ _ => by kernel_rfl
theorem Zmf : ZR Tryz.prog 112 := fun _ _ => by kernel_rfl
theorem k_en113 : ZR Tryz.prog 113 := fun _ _ => by kernel_rfl
theorem Z4h : ZR Tryz.prog 114 := fun _ _ => by kernel_rfl
theorem Znj : ZR Tryz.prog 115 := fun _ _ => by kernel_rfl
theorem k_en119 : ZR Tryz.prog 119 := fun _ _ => by kernel_rfl
theorem ZOl : ZR Tryz.prog 120 := fun _ _ => by kernel_rfl
theorem ZGm : ZR Tryz.prog 121 := fun _ _ => by kernel_rfl
theorem ZCk : ZR Tryz.prog 122 := fun _ _ => by kernel_rfl
theorem Zol : ZR Tryz.prog 123 := fun _ _ => by kernel_rfl
theorem Zti : ZR Tryz.prog 124 := fun _ _ => by kernel_rfl
theorem ZXh : ZR Tryz.prog 126 := fun _ _ => by kernel_rfl
theorem k_en127 : ZR Tryz.prog 127 := fun _ _ => by kernel_rfl
theorem Z4k : ZR Tryz.prog 137 := fun _ _ => by kernel_rfl
theorem k_en138 : ZR Tryz.prog 138 := fun _ _ => by kernel_rfl
theorem Zie : ZR Tryz.prog 139 := fun _ _ => by kernel_rfl
theorem k_en140 : ZR Tryz.prog 140 := fun _ _ => by kernel_rfl
theorem k_en141 : ZR Tryz.prog 141 := fun _ _ => by kernel_rfl
theorem k_en144 : ZR Tryz.prog 144 := fun _ _ => by kernel_rfl
theorem ZEh : ZR Tryz.prog 145 := fun _ _ => by kernel_rfl
theorem ZMh : ZR Tryz.prog 146 := fun _ _ => by kernel_rfl
theorem Z3j : ZR Tryz.prog 147 := fun _ _ => by kernel_rfl
theorem ZOd : ZR Tryz.prog 149 := fun _ _ => by kernel_rfl
theorem Ztg : ZR Tryz.prog 15 := fun _ _ => by kernel_rfl
theorem Zpm : ZR Tryz.prog 150 := fun _ _ => by kernel_rfl
theorem Zhm : ZR Tryz.prog 151 := fun _ _ => by kernel_rfl
theorem ZWk : ZR Tryz.prog 152 := fun _ _ => by kernel_rfl
theorem k_en153 : ZR Tryz.prog 153 := fun _ _ => by kernel_rfl
theorem k_en154 : ZR Tryz.prog 154 := fun _ _ => by kernel_rfl
theorem ZGj : ZR Tryz.prog 155 := fun _ _ => by kernel_rfl
theorem Z5d : ZR Tryz.prog 156 := fun _ _ => by kernel_rfl
theorem k_en157 : ZR Tryz.prog 157 := fun _ _ => by kernel_rfl
theorem ZTj : ZR Tryz.prog 158 := fun _ _ => by kernel_rfl
theorem k_en159 : ZR Tryz.prog 159 := fun _ _ => by kernel_rfl
theorem k_en160 : ZR Tryz.prog 160 := fun _ _ => by kernel_rfl
theorem k_en161 : ZR Tryz.prog 161 := fun _ _ => by kernel_rfl
theorem Zul : ZR Tryz.prog 167 := fun _ _ => by kernel_rfl
theorem k_en168 : ZR Tryz.prog 168 := fun _ _ => by kernel_rfl
theorem k_en169 : ZR Tryz.prog 169 := fun _ _ => by kernel_rfl
theorem k_en17 : ZR Tryz.prog 17 := fun _ _ => by kernel_rfl
theorem k_en170 : ZR Tryz.prog 170 := fun _ _ => by kernel_rfl
theorem k_en171 : ZR Tryz.prog 171 := fun _ _ => by kernel_rfl
theorem k_en172 : ZR Tryz.prog 172 := fun _ _ => by kernel_rfl
theorem k_en173 : ZR Tryz.prog 173 := fun _ _ => by kernel_rfl
theorem k_en174 : ZR Tryz.prog 174 := fun _ _ => by kernel_rfl
theorem k_en175 : ZR Tryz.prog 175 := fun _ _ => by kernel_rfl
theorem Z1l : ZR Tryz.prog 176 := fun _ _ => by kernel_rfl
theorem Zri : ZR Tryz.prog 177 := fun _ _ => by kernel_rfl
theorem k_en178 : ZR Tryz.prog 178 := fun _ _ => by kernel_rfl
theorem k_en179 : ZR Tryz.prog 179 := fun _ _ => by kernel_rfl
theorem k_en181 : ZR Tryz.prog 181 := fun _ _ => by kernel_rfl
theorem ZQm : ZR Tryz.prog 182 := fun _ _ => by kernel_rfl
theorem k_en183 : ZR Tryz.prog 183 := fun _ _ => by kernel_rfl
theorem k_en184 : ZR Tryz.prog 184 := fun _ _ => by kernel_rfl
theorem k_en185 : ZR Tryz.prog 185 := fun _ _ => by kernel_rfl
theorem Zxd : ZR Tryz.prog 19 := fun _ _ => by kernel_rfl
theorem Zjm : ZR Tryz.prog 190 := fun _ _ => by kernel_rfl
theorem k_en196 : ZR Tryz.prog 196 := fun _ _ => by kernel_rfl
theorem k_en197 : ZR Tryz.prog 197 := fun _ _ => by kernel_rfl
theorem k_en198 : ZR Tryz.prog 198 := fun _ _ => by kernel_rfl
theorem Z0b : ZR Tryz.prog 20 := fun _ _ => by kernel_rfl
theorem k_en21 : ZR Tryz.prog 21 := fun _ _ => by kernel_rfl
theorem k_en26 : ZR Tryz.prog 26 := fun _ _ => by kernel_rfl
theorem Zdc : ZR Tryz.prog 28 := fun _ _ => by kernel_rfl
theorem Zyf : ZR Tryz.prog 29 := fun _ _ => by kernel_rfl
theorem Z2e : ZR Tryz.prog 30 := fun _ _ => by kernel_rfl
theorem ZEe : ZR Tryz.prog 31 := fun _ _ => by kernel_rfl
theorem ZRh : ZR Tryz.prog 32 := fun _ _ => by kernel_rfl
theorem ZQe : ZR Tryz.prog 35 := fun _ _ => by kernel_rfl
theorem ZLj : ZR Tryz.prog 37 := fun _ _ => by kernel_rfl
theorem k_en38 : ZR Tryz.prog 38 := fun _ _ => by kernel_rfl
theorem k_en39 : ZR Tryz.prog 39 := fun _ _ => by kernel_rfl
theorem ZLk : ZR Tryz.prog 40 := fun _ _ => by kernel_rfl
theorem Zrm : ZR Tryz.prog 41 := fun _ _ => by kernel_rfl
theorem Zsm : ZR Tryz.prog 52 := fun _ _ => by kernel_rfl
theorem k_en53 : ZR Tryz.prog 53 := fun _ _ => by kernel_rfl
theorem ZRl : ZR Tryz.prog 54 := fun _ _ => by kernel_rfl
theorem Zzf : ZR Tryz.prog 55 := fun _ _ => by kernel_rfl
theorem Z1m : ZR Tryz.prog 56 := fun _ _ => by kernel_rfl
theorem Z2l : ZR Tryz.prog 57 := fun _ _ => by kernel_rfl
theorem k_en59 : ZR Tryz.prog 59 := fun _ _ => by kernel_rfl
theorem Zkf : ZR Tryz.prog 61 := fun _ _ => by kernel_rfl
theorem Zpd : ZR Tryz.prog 62 := fun _ _ => by kernel_rfl
theorem Zth : ZR Tryz.prog 64 := fun _ _ => by kernel_rfl
theorem Z4f : ZR Tryz.prog 80 := fun _ _ => by kernel_rfl
theorem k_en81 : ZR Tryz.prog 81 := fun _ _ => by kernel_rfl
theorem Zhl : ZR Tryz.prog 82 := fun _ _ => by kernel_rfl
theorem Z0c : ZR Tryz.prog 84 := fun _ _ => by kernel_rfl
theorem ZZd : ZR Tryz.prog 85 := fun _ _ => by kernel_rfl
theorem ZXj : ZR Tryz.prog 86 := fun _ _ => by kernel_rfl
theorem ZSf : ZR Tryz.prog 87 := fun _ _ => by kernel_rfl
theorem Z2i : ZR Tryz.prog 88 := fun _ _ => by kernel_rfl
theorem k_en89 : ZR Tryz.prog 89 := fun _ _ => by kernel_rfl
theorem k_en90 : ZR Tryz.prog 90 := fun _ _ => by kernel_rfl
theorem k_en91 : ZR Tryz.prog 91 := fun _ _ => by kernel_rfl
theorem k_en95 : ZR Tryz.prog 95 := fun _ _ => by kernel_rfl
theorem k_en96 : ZR Tryz.prog 96 := fun _ _ => by kernel_rfl
theorem k_en98 : ZR Tryz.prog 98 := fun _ _ => by kernel_rfl
theorem ZMg : ZR Tryz.prog 99 := fun _ _ => by kernel_rfl
theorem Zmg : EqB Tryz.prog 4 := fun _ _ _ => by kernel_rfl
theorem Zdh : Zaf Tryz.prog 148 add64Entry := ⟨_, Tryz.func148, by kernel_rfl, by kernel_rfl, by kernel_rfl, by kernel_rfl⟩
theorem ZQk : Zaf Tryz.prog 180 Zlk := ⟨_, Tryz.func180, by kernel_rfl, by kernel_rfl, by kernel_rfl, by kernel_rfl⟩
theorem ZMl : Zub Tryz.prog 100 0 0 := fun _ _ _ => by kernel_rfl
theorem Zre : Zub Tryz.prog 100 1 3 := fun _ _ _ => by kernel_rfl
theorem ZEo : Zub Tryz.prog 102 0 0 := fun _ _ _ => by kernel_rfl
theorem Zlf : Zub Tryz.prog 102 1 3 := fun _ _ _ => by kernel_rfl
theorem ZCo : Zub Tryz.prog 120 0 0 := fun _ _ _ => by kernel_rfl
theorem Z6j : Zub Tryz.prog 120 1 3 := fun _ _ _ => by kernel_rfl
theorem ZQl : Zub Tryz.prog 205 1 3 := fun _ _ _ => by kernel_rfl
theorem Z5a : Zub Tryz.prog 32 0 0 := fun _ _ _ => by kernel_rfl
theorem Z4a : Zub Tryz.prog 32 1 1 := fun _ _ _ => by kernel_rfl
theorem Z1a : Zub Tryz.prog 34 0 0 := fun _ _ _ => by kernel_rfl
theorem Ztb : Zub Tryz.prog 34 1 2 := fun _ _ _ => by kernel_rfl
theorem Zrc : Zub Tryz.prog 42 0 0 := fun _ _ _ => by kernel_rfl
theorem Zke : Zub Tryz.prog 42 1 1 := fun _ _ _ => by kernel_rfl
theorem ZWm : Zub Tryz.prog 42 2 2 := fun _ _ _ => by kernel_rfl
theorem ZIh : Zub Tryz.prog 50 0 0 := fun _ _ _ => by kernel_rfl
theorem ZBi : Zub Tryz.prog 50 1 1 := fun _ _ _ => by kernel_rfl
theorem Zgi : Zub Tryz.prog 53 0 0 := fun _ _ _ => by kernel_rfl
theorem ZLi : Zub Tryz.prog 53 1 3 := fun _ _ _ => by kernel_rfl
theorem ZIo : Zub Tryz.prog 53 2 6 := fun _ _ _ => by kernel_rfl
theorem ZBj : Zub Tryz.prog 98 0 0 := fun _ _ _ => by kernel_rfl
theorem ZYh : Zub Tryz.prog 98 1 2 := fun _ _ _ => by kernel_rfl
theorem Zfa : Tryz.prog.follows .mixedOrders = true := by kernel_rfl
theorem Zkh : NeB Tryz.prog 4 := fun _ _ _ => by kernel_rfl
theorem ZWc : Ztc Tryz.prog 105 120 6 := ⟨fun _ => by kernel_rfl, fun _ => by kernel_rfl⟩
theorem Zef : Ztc Tryz.prog 106 205 6 := ⟨fun _ => by kernel_rfl, fun _ => by kernel_rfl⟩
theorem Zmb : Ztc Tryz.prog 22 28 1 := ⟨fun _ => by kernel_rfl, fun _ => by kernel_rfl⟩
theorem Zbk : Ztc Tryz.prog 263 9 1 := ⟨fun _ => by kernel_rfl, fun _ => by kernel_rfl⟩
theorem Zhc : Ztc Tryz.prog 28 3 1 := ⟨fun _ => by kernel_rfl, fun _ => by kernel_rfl⟩
theorem ZS : Ztc Tryz.prog 30 211 1 := ⟨fun _ => by kernel_rfl, fun _ => by kernel_rfl⟩
theorem Zga : Ztc Tryz.prog 40 212 1 := ⟨fun _ => by kernel_rfl, fun _ => by kernel_rfl⟩
theorem ZSc : Ztc Tryz.prog 80 34 3 := ⟨fun _ => by kernel_rfl, fun _ => by kernel_rfl⟩
theorem ZQf : Ztc Tryz.prog 85 42 3 := ⟨fun _ => by kernel_rfl, fun _ => by kernel_rfl⟩
theorem Zyi : Ztc Tryz.prog 94 98 4 := ⟨fun _ => by kernel_rfl, fun _ => by kernel_rfl⟩
theorem ZVe : Ztc Tryz.prog 96 50 2 := ⟨fun _ => by kernel_rfl, fun _ => by kernel_rfl⟩
theorem Z6a : Sized Tryz.prog 100 4 true := ⟨fun _ => by kernel_rfl, fun _ => by kernel_rfl⟩
theorem Zbf : Sized Tryz.prog 102 4 true := ⟨fun _ => by kernel_rfl, fun _ => by kernel_rfl⟩
theorem Zlh : Sized Tryz.prog 120 6 true := ⟨fun _ => by kernel_rfl, fun _ => by kernel_rfl⟩
theorem Zse : Sized Tryz.prog 2 1 false := ⟨fun _ => by kernel_rfl, fun _ => by kernel_rfl⟩
theorem Zza : Sized Tryz.prog 211 1 false := ⟨fun _ => by kernel_rfl, fun _ => by kernel_rfl⟩
theorem Zkb : Sized Tryz.prog 212 1 false := ⟨fun _ => by kernel_rfl, fun _ => by kernel_rfl⟩
theorem ZCe : Sized Tryz.prog 22 1 false := ⟨fun _ => by kernel_rfl, fun _ => by kernel_rfl⟩
theorem Zui : Sized Tryz.prog 28 1 false := ⟨fun _ => by kernel_rfl, fun _ => by kernel_rfl⟩
theorem Z3c : Sized Tryz.prog 3 1 false := ⟨fun _ => by kernel_rfl, fun _ => by kernel_rfl⟩
theorem Zqa : Sized Tryz.prog 30 1 false := ⟨fun _ => by kernel_rfl, fun _ => by kernel_rfl⟩
theorem ZKa : Sized Tryz.prog 32 2 true := ⟨fun _ => by kernel_rfl, fun _ => by kernel_rfl⟩
theorem Zu : Sized Tryz.prog 34 3 true := ⟨fun _ => by kernel_rfl, fun _ => by kernel_rfl⟩
theorem ZBa : Sized Tryz.prog 4 1 false := ⟨fun _ => by kernel_rfl, fun _ => by kernel_rfl⟩
theorem ZBd : Sized Tryz.prog 40 1 false := ⟨fun _ => by kernel_rfl, fun _ => by kernel_rfl⟩
theorem Zna : Sized Tryz.prog 42 3 true := ⟨fun _ => by kernel_rfl, fun _ => by kernel_rfl⟩
theorem k_sz5 : Sized Tryz.prog 5 1 false := ⟨fun _ => by kernel_rfl, fun _ => by kernel_rfl⟩
theorem Zua : Sized Tryz.prog 50 2 true := ⟨fun _ => by kernel_rfl, fun _ => by kernel_rfl⟩
theorem ZQc : Sized Tryz.prog 53 9 true := ⟨fun _ => by kernel_rfl, fun _ => by kernel_rfl⟩
theorem Zsj : Sized Tryz.prog 55 9 true := ⟨fun _ => by kernel_rfl, fun _ => by kernel_rfl⟩
theorem ZBe : Sized Tryz.prog 80 1 false := ⟨fun _ => by kernel_rfl, fun _ => by kernel_rfl⟩
theorem ZHf : Sized Tryz.prog 85 1 false := ⟨fun _ => by kernel_rfl, fun _ => by kernel_rfl⟩
theorem k_sz9 : Sized Tryz.prog 9 1 false := ⟨fun _ => by kernel_rfl, fun _ => by kernel_rfl⟩
theorem ZAm : Sized Tryz.prog 94 1 false := ⟨fun _ => by kernel_rfl, fun _ => by kernel_rfl⟩
theorem ZXi : Sized Tryz.prog 98 4 true := ⟨fun _ => by kernel_rfl, fun _ => by kernel_rfl⟩
theorem Z8j : ∀ w, (zeroValue 100).run Tryz.prog w = .ok (Value.agg #[Value.bool false, Value.slice none 0 0, Value.slice none 0 0, Value.slice none 0 0]) w := fun _ => by kernel_rfl
theorem Ztk : ∀ w, (zeroValue 102).run Tryz.prog w = .ok (Value.agg #[Value.bool false, Value.slice none 0 0, Value.slice none 0 0, Value.slice none 0 0]) w := fun _ => by kernel_rfl
theorem Zjl : ∀ w, (zeroValue 120).run Tryz.prog w = .ok (Value.agg #[Value.bool false, Value.slice none 0 0, Value.slice none 0 0, Value.bool false, Value.slice none 0 0, Value.slice none 0 0]) w := fun _ => by kernel_rfl
theorem k_zv270 : ∀ w, (zeroValue 270).run Tryz.prog w = .ok (Value.agg #[Value.pointer none, Value.slice none 0 0]) w := fun _ => by kernel_rfl
theorem k_zv291 : ∀ w, (zeroValue 291).run Tryz.prog w = .ok (Value.agg #[Value.int IntKind.u8 0, Value.int IntKind.u8 0, Value.int IntKind.u8 0, Value.int IntKind.u8 0, Value.int IntKind.u8 0, Value.int IntKind.u8 0, Value.int IntKind.u8 0, Value.int IntKind.u8 0, Value.int IntKind.u8 0, Value.int IntKind.u8 0, Value.int IntKind.u8 0, Value.int IntKind.u8 0, Value.int IntKind.u8 0, Value.int IntKind.u8 0, Value.int IntKind.u8 0, Value.int IntKind.u8 0, Value.int IntKind.u8 0, Value.int IntKind.u8 0, Value.int IntKind.u8 0, Value.int IntKind.u8 0]) w := fun _ => by kernel_rfl
theorem Zed : ∀ w, (zeroValue 32).run Tryz.prog w = .ok (Value.agg #[Value.bool false, Value.slice none 0 0]) w := fun _ => by kernel_rfl
theorem Zva : ∀ w, (zeroValue 34).run Tryz.prog w = .ok (Value.agg #[Value.bool false, Value.slice none 0 0, Value.slice none 0 0]) w := fun _ => by kernel_rfl
theorem Z4c : ∀ w, (zeroValue 42).run Tryz.prog w = .ok (Value.agg #[Value.bool false, Value.slice none 0 0, Value.slice none 0 0]) w := fun _ => by kernel_rfl
theorem k_zv50 : ∀ w, (zeroValue 50).run Tryz.prog w = .ok (Value.agg #[Value.int IntKind.i64 0, Value.int IntKind.i64 0]) w := fun _ => by kernel_rfl
theorem Zkm : ∀ w, (zeroValue 53).run Tryz.prog w = .ok (Value.agg #[Value.bool false, Value.slice none 0 0, Value.slice none 0 0, Value.bool false, Value.slice none 0 0, Value.slice none 0 0, Value.bool false, Value.slice none 0 0, Value.slice none 0 0]) w := fun _ => by kernel_rfl
theorem Z1k : ∀ w, (zeroValue 55).run Tryz.prog w = .ok (Value.agg #[Value.bool false, Value.slice none 0 0, Value.slice none 0 0, Value.bool false, Value.slice none 0 0, Value.slice none 0 0, Value.bool false, Value.slice none 0 0, Value.slice none 0 0]) w := fun _ => by kernel_rfl
theorem Zfm : ∀ w, (zeroValue 98).run Tryz.prog w = .ok (Value.agg #[Value.int IntKind.i64 0, Value.int IntKind.i64 0, Value.int IntKind.i64 0, Value.int IntKind.i64 0]) w := fun _ => by kernel_rfl
theorem cut_w {e : World} {d : Zd} (hv : VIn d e) {E : List Value} {a : (List Int)} (F : Rep.rel (Zt (Za .u64)) d E a) {z : (List Int)} (H : ZLh a = some z) : Ret Tryz.prog 149 #[(Zt (Za .u64)).val E] e d (fun y v' => ∃ G, y = (Zt (Za .u64)).val G ∧ (Zt (Za .u64)).rel v' G z) := by
  obtain ⟨M, N, O, rfl⟩ := Zta F; refine ZT (K := 21) (args := [.slice M (N) O]) hv Tryz.func149 rfl rfl zl fun f S => ?_; unfold ZLh at H; refine sr ?_; have S := S.nilLoc 211 1; refine ov S rfl (Zda S (y := .slice (mkA none) 0 0) rfl) fun f S => oe (Zh fun _ P => ?_); obtain ⟨Q, R, T⟩ := Zb H; refine ZO (fun f w => ∃ (B : (List Int)) (j : Option Addr) (k : Nat) (l : Nat) (m : Zd), B = Q ∧ Zd.le d m ∧ St 21 e d [(0, .slice j (k) l)] [] m f w ∧ Rep.rel (Zt (Za .u64)) m [.slice j (k) l] B) (fun _ U => ?_) ?_
  · have H := R; refine wp_block ?_; obtain ⟨am, V, W⟩ := Zb H; have S := S.reorder (ℓ' := []) [] rfl (by decide); refine Zra V (fun X f w => ∃ (n : (List Int)) (o : Option Addr) (q : Nat) (s : Nat) (g : Zd), n = X ∧ Zd.le d g ∧ St 21 e d [(0, .slice o (q) s)] [] g f w ∧ Rep.rel (Zt (Za .u64)) g [.slice o (q) s] n) ⟨_, _, _, _, _, rfl, (leR _), (S.fr' rfl), F⟩ ?_; rintro _ f w st ⟨n, o, q, s, g, hq, I, S, c⟩ H an Y Z; subst hq; refine Zh fun _ aa => Zh fun _ ab => ?_; obtain ⟨ac, ad, ae⟩ := Zb H; refine ZO (fun f w => ∃ (u : Bool) (C : Zd), u = ac ∧ Zd.le g C ∧ St 21 e d [(0, .slice o (q) s), (14, .bool (u))] [] C f w) (fun _ J => ?_) ?_
    · have H := ad; rcases Zy (decide ((0 : Int) < (n.length : Int))) with h | h
      · have H := Zx H h; obtain ⟨ao, af, H⟩ := Zb H; obtain ⟨ap, D, H⟩ := Zb H; refine Zm (mv S rfl fun f S => ov S rfl (ZI S (Zv c) rfl rfl ZS) fun f S => ov S rfl (Zj S rfl rfl ZAa) fun f S => ?_); have S := S.bool (t := 5) rfl h; refine mv S rfl fun f S => opy S rfl rfl rfl rfl (Zr S rfl) fun f S => opy S rfl rfl rfl rfl (Zr S rfl) fun f S => opy S rfl rfl rfl rfl (ZI S (Zv c) rfl rfl ZS) fun f S => opy S rfl rfl rfl rfl (Zj S rfl rfl (ZGa af)) fun f S => ?_; obtain ⟨_, aq, ar, au, rfl, ag, ah⟩ := Zla c (Zk D).2.1; obtain ⟨rfl, av⟩ := ah; refine opy S rfl rfl rfl rfl (ZU S rfl rfl ZS (Zk D).1 (ltI (Zv c) (Zk D).2.2.1)) fun f S => opy S rfl rfl rfl rfl (Z5 S rfl Zza (S.view ag)) fun f S => opy S rfl rfl rfl rfl (Zj S rfl rfl Zka) fun f S => ov S rfl (ZK S (b := true) rfl rfl) fun f S => Zl ?_; obtain rfl := Zg H; refine Zc (J _ _ ⟨_, _, rfl, (leR _), (S.fr' rfl)⟩)
      have H := Zw H h; refine Zm (mv S rfl fun f S => ov S rfl (ZI S (Zv c) rfl rfl ZS) fun f S => ov S rfl (Zj S rfl rfl ZAa) fun f S => ?_); have S := S.bool (t := 5) rfl h; refine mv S rfl fun f S => opn S rfl rfl rfl rfl fun f S => opn S rfl rfl rfl rfl fun f S => opn S rfl rfl rfl rfl fun f S => opn S rfl rfl rfl rfl fun f S => opn S rfl rfl rfl rfl fun f S => opn S rfl rfl rfl rfl fun f S => opn S rfl rfl rfl rfl fun f S => ov S rfl (ZK S (b := false) rfl rfl) fun f S => Zl ?_; obtain rfl := Zg H; refine Zc (J _ _ ⟨_, _, rfl, (leR _), (S.fr' rfl)⟩)
    rintro f w ⟨u, C, hq, v, S⟩; subst hq; have H := ae; refine Zc (ab _ _ ?_); rcases Zy (u) with i | i
    · have H := Zx H i; refine ZE S rfl i (wp_skip (Zc (aa _ _ (wp_block ?_)))); obtain ⟨ai, aj, H⟩ := Zb H; obtain ⟨aw, x, H⟩ := Zb H; refine Zm (mv S rfl fun f S => mv S rfl fun f S => ?_); have c := Zo v c; refine ov S rfl (ZI S (Zv c) rfl rfl ZS) fun f S => ov S rfl (Zj S rfl rfl (ZGa aj)) fun f S => ?_; obtain ⟨ax, ay, ak, L⟩ := Z7h S (A := (Za .u64)) (p := (0 : Int)) (r := ai) ZS c (ZKb x).1 (ZKb x).2.1 (ZKb x).2.2.1; rw [← (ZKb x).2.2.2.1] at L; refine ov S rfl (ak rfl (.inl ⟨rfl, rfl⟩) (.inr ⟨_, _, rfl, rfl⟩)) fun f S => mw S rfl fun f S => Zl (Zma ?_); obtain rfl := Zg H; refine Y _ rfl _ _ ⟨_, _, _, _, _, rfl, (leT I v), (S.fr' rfl), L⟩
    have H := Zw H i; refine ZF S rfl i (wp_exit (ZP ?_)); obtain rfl := Zg H; have hq := Z _ rfl; subst hq; have H := W; refine ZP (Zja ?_); obtain rfl := Zg H; have c := Zo v c; refine Zc (U _ _ ⟨_, _, _, _, _, rfl, (leT (leT (leR _) I) v), (S.fr' rfl), c⟩)
  rintro f w ⟨B, j, k, l, m, hq, az, S, al⟩; subst hq; have H := T; refine Zc (P _ _ (sr (mv S rfl fun f S => mw S rfl fun f S => oe (wp_ret ?_)))); obtain rfl := Zg H; refine ZA S (ZJ rfl (ZC S rfl)) ⟨[.slice j (k) l], rfl, al⟩
theorem ZJd {d : World} {b : Zd} (hv : VIn b d) {e : List Value} {a : (List Int)} (c : Rep.rel (Zt (Za .u64)) b e a) {z : Nat} (hm : Zvb a = some z) :
    Ret Tryz.prog 149 #[(Zt (Za .u64)).val e] d b (fun y v' => ∃ f, y = ZB.val f ∧ ZB.rel v' f z) :=
  by cases hm; exact cut_w hv c (cut_eq (Z9j c).1 (Z9j c).2)
theorem word_w {b : World} {a : Zd} (hv : VIn a b) {c : List Value} {n : Int} (h : Rep.rel (Za .u64) a c n) {z : Nat} (H : Zqj n = some z) : Ret Tryz.prog 139 #[(Za .u64).val c] b a (fun y v' => ∃ d, y = ZB.val d ∧ ZB.rel v' d z) := by
  obtain ⟨rfl, j⟩ := h; refine ZT (K := 6) (args := [.int .u64 (n)]) hv Tryz.func139 rfl rfl zl fun f S => ?_; unfold Zqj at H; refine sr (mw S rfl fun f S => oe (Zh fun _ k => ?_)); obtain ⟨u, m, H⟩ := Zb H; refine Zm (mv S rfl fun f S => ?_); obtain ⟨e, w, o, S⟩ := ZMa S (n := 1) (cs := [.int .u64 (n)]) (vals := [(0, .int .u64 (n))]) (sz := 1) rfl (by decide) (Zcb ZGc (x := .int .u64 (n)) (cs := [.int .u64 (n)]) rfl rfl (by decide)); have p : Rep.rels (Za .u64) a [.int .u64 (n)] [n] := (ZLa (Zq j) Zya); refine Zoa wn rfl zl (o rfl) S fun f S => ?_; obtain ⟨v, B, S, q⟩ := S.pubSlice (i := 0) (A := (Za .u64)) (l := [n]) (ℓ' := []) rfl rfl rfl p rfl; refine opc S rfl (Zn S [.slice (mkA (some e)) (1) 1] ZOd rfl rfl) (ZJd S.vin (show Rep.rel (Zt (Za .u64)) _ [.slice (mkA (some e)) (1) 1] ([n]) from q) m) ?_; rintro _ C f w D ⟨E, rfl, g⟩ S; obtain ⟨r, s, t, rfl⟩ := Z1 g; refine mw S rfl fun f S => Zl (Zc (k _ _ (wp_ret ?_))); obtain rfl := Zg H; refine ZA S (ZJ rfl (ZC S rfl)) ⟨[.slice r s t], rfl, g⟩
theorem Zte {b : World} {a : Zd} (hv : VIn a b) {c : List Value} {n : Int} (e : Rep.rel (Za .u64) a c n) {z : Nat} (hm : Z8b n = some z) :
    Ret Tryz.prog 139 #[(Za .u64).val c] b a (fun y v' => ∃ d, y = ZB.val d ∧ ZB.rel v' d z) :=
  word_w hv e (Z6p hm)
theorem of_w {k : World} {j : Zd} (hv : VIn j k) {l : List Value} {n : Int} (q : Rep.rel (Za .i64) j l n) {z : Int} (H : of_m n = some z) : Ret Tryz.prog 88 #[(Za .i64).val l] k j (fun y v' => ∃ m, y = Z7.val m ∧ Z7.rel v' m z) := by
  obtain ⟨rfl, G⟩ := q; refine ZT (K := 14) (args := [.int .i64 (n)]) hv Tryz.func88 rfl rfl zl fun f S => ?_; unfold of_m at H; refine sr (Z2 S wn rfl zl (cs := [.bool false, .slice none 0 0]) (ZW Zed) fun I f w S => oe (Zh fun _ r => sr (mv S rfl fun f S => ov S rfl (Zj S rfl rfl Z4) fun f S => oe ?_))); rcases Zy (decide (n < (0 : Int))) with a | a
  · have H := Zx H a; refine ZE S rfl a (Zh fun _ t => ?_); obtain ⟨J, u, H⟩ := Zb H; refine Zm (mv S rfl fun f S => ov S rfl (ZJa S rfl (ZOi _)) fun f S => ov S rfl (Zum S rfl) fun f S => opc S rfl (Zn S [.int .u64 (IntKind.u64.wrap (-(IntKind.u64.wrap n)))] Zie rfl rfl) (Zte S.vin (show Rep.rel (Za .u64) _ [.int .u64 (IntKind.u64.wrap (-(IntKind.u64.wrap n)))] (IntKind.u64.wrap (-(IntKind.u64.wrap n))) from (Zq (Zxa _ _))) u) ?_); rintro _ L f w M ⟨N, rfl, o⟩ S; obtain ⟨b, c, d, rfl⟩ := Z1 o; refine ov S rfl (ZEa S [(0, .bool (true)), (1, .slice b c d)] rfl (z := .agg #[.bool (true), .slice b c d]) (by kernel_rfl)) fun f S => ?_; obtain ⟨w, v, S⟩ := sbp S [.bool (true), .slice b c d] ZKa 0 0 rfl; refine ZY wn rfl (v rfl rfl) (Zl (Zc (t _ _ (wp_ret (ZN ?_))))); obtain ⟨O, x, H⟩ := Zb H; have A := Zvh (s := true) o x; obtain rfl := Zg H; refine ZA S (ZJ rfl (Zyc S rfl ZKa rfl (S.box (i := 0) rfl 0 [.bool (true), .slice b c d] rfl))) ⟨[.bool (true), .slice b c d], rfl, A⟩
  have H := Zw H a; refine ZF S rfl a (wp_skip (Zc (r _ _ (Zh fun _ B => ?_)))); obtain ⟨P, C, H⟩ := Zb H; refine Zm (mv S rfl fun f S => ov S rfl (ZJa S rfl (ZOi _)) fun f S => opc S rfl (Zn S [.int .u64 (IntKind.u64.wrap n)] Zie rfl rfl) (Zte S.vin (show Rep.rel (Za .u64) _ [.int .u64 (IntKind.u64.wrap n)] (IntKind.u64.wrap n) from (Zq (Zxa _ _))) C) ?_); rintro _ Q f w R ⟨T, rfl, p⟩ S; obtain ⟨e, g, h, rfl⟩ := Z1 p; refine ov S rfl (ZEa S [(0, .bool (false)), (1, .slice e g h)] rfl (z := .agg #[.bool (false), .slice e g h]) (by kernel_rfl)) fun f S => ?_; obtain ⟨w, D, S⟩ := sbp S [.bool (false), .slice e g h] ZKa 0 0 rfl; refine ZY wn rfl (D rfl rfl) (Zl (Zc (B _ _ (wp_ret ?_)))); obtain ⟨U, E, H⟩ := Zb H; have F := Zvh (s := false) p E; obtain rfl := Zg H; refine ZA S (ZJ rfl (Zyc S rfl ZKa rfl (S.box (i := 0) rfl 0 [.bool (false), .slice e g h] rfl))) ⟨[.bool (false), .slice e g h], rfl, F⟩
theorem of_c {b : World} {a : Zd} (hv : VIn a b) {c : List Value} {n : Int} (d : Rep.rel (Za .i64) a c n) {z : Int} (hm : ofF n = some z) :
    Ret Tryz.prog 88 #[(Za .i64).val c] b a (fun y v' => ∃ e, y = Z7.val e ∧ Z7.rel v' e z) :=
  of_w hv d (ofF_eq d.2 hm)
theorem qint_w {g : World} {e : Zd} (hv : VIn e g) {h : List Value} {n : Int} (k : Rep.rel (Za .i64) e h n) {z : Rat} (H : ZYi n = some z) : Ret Tryz.prog 20 #[(Za .i64).val h] g e (fun y v' => ∃ i, y = Ze.val i ∧ Ze.rel v' i z) := by
  obtain ⟨rfl, l⟩ := k; refine ZT (K := 6) (args := [.int .i64 (n)]) hv Tryz.func20 rfl rfl zl fun f S => ?_; unfold ZYi at H; refine sr (Z2 S wn rfl zl (cs := [.bool false, .slice none 0 0, .slice none 0 0]) (ZW Zva) fun s f w S => oe (Zh fun _ m => ?_)); obtain ⟨t, o, H⟩ := Zb H; refine Zm (mv S rfl fun f S => opc S rfl (Zn S [.int .i64 (n)] Z2i rfl rfl) (of_c S.vin (show Rep.rel (Za .i64) _ [.int .i64 (n)] n from (Zq l)) o) ?_); rintro _ u f w v ⟨x, rfl, j⟩ S; obtain ⟨a, b, c, d, rfl⟩ := Z0a j; refine ov S rfl (ZEa S [(0, .agg #[.bool a, .slice b c d])] rfl (z := .agg #[.bool a, .slice b c d, .slice none 0 0]) (by kernel_rfl)) fun f S => ?_; obtain ⟨w, p, S⟩ := sbp S [.bool a, .slice b c d, .slice none 0 0] Zu 0 0 rfl; refine ZY wn rfl (p rfl rfl) (Zl (Zc (m _ _ (wp_ret ?_)))); obtain ⟨A, q, H⟩ := Zb H; have r := Zdi j (ZVf _) q; obtain rfl := Zg H; refine ZA S (ZJ rfl (ZCa S rfl Zu 0 rfl rfl)) ⟨[.bool a, .slice b c d, .slice none 0 0], rfl, r⟩
theorem ZTb {b : World} {a : Zd} (hv : VIn a b) {c : List Value} {n : Int} (e : Rep.rel (Za .i64) a c n) {z : Rat} (hm : Z4b n = some z) :
    Ret Tryz.prog 20 #[(Za .i64).val c] b a (fun y v' => ∃ d, y = Ze.val d ∧ Ze.rel v' d z) :=
  qint_w hv e (ZHn hm)
theorem len64_w {b : World} {a : Zd} (hv : VIn a b) {q : List Value} {x : Int} (J : Rep.rel (Za .u64) a q x) {z : Int} (H : ZHg x = some z) : Ret Tryz.prog 196 #[(Za .u64).val q] b a (fun y v' => ∃ r, y = (Za .i64).val r ∧ (Za .i64).rel v' r z) := by
  obtain ⟨rfl, s⟩ := J; refine ZT (K := 25) (args := [.int .u64 (x)]) hv Tryz.func196 rfl rfl zl fun f S => ?_; unfold ZHg at H; refine sr (mw S rfl fun f S => oe (Zh fun _ L => sr (mv S rfl fun f S => ov S rfl (Zj S rfl rfl Zdb) fun f S => oe ?_))); obtain ⟨M, N, O⟩ := Zb H; refine ZO (fun f w => ∃ (c : Int) (i : Int) (j : Zd), (c, i) = M ∧ Zd.le a j ∧ St 25 b a [(0, .int .u64 (c)), (2, .int .i64 (i))] [] j f w ∧ inR .u64 c ∧ inR .i64 i) (fun _ t => ?_) ?_
  · have H := N; rcases Zy (decide ((4294967296 : Int) ≤ x)) with d | d
    · have H := Zx H d; refine ZE S rfl d (Zh fun _ P => ?_); obtain ⟨ag, u, H⟩ := Zb H; refine Zm (mv S rfl fun f S => ov S rfl (Zj S rfl rfl (ZAb u)) fun f S => mw S rfl fun f S => Zl (Zc (P _ _ (Zm (mw S rfl fun f S => Zl ?_))))); obtain rfl := Zg H; refine Zc (t _ _ ⟨_, _, _, rfl, (leR _), (S.fr' rfl), (ZFd s u), (by decide)⟩)
    have H := Zw H d; refine ZF S rfl d (wp_skip ?_); obtain rfl := Zg H; refine Zc (t _ _ ⟨_, _, _, rfl, (leR _), (S.fr' rfl), s, (by decide)⟩)
  rintro f w ⟨c, i, j, hq, ah, S, v, Q⟩; subst hq; have H := O; refine Zc (L _ _ (Zh fun _ R => sr (mv S rfl fun f S => ov S rfl (Zj S rfl rfl Zdb) fun f S => oe ?_))); obtain ⟨T, U, V⟩ := Zb H; refine ZO (fun f w => ∃ (e : Int) (k : Int) (m : Zd), (e, k) = T ∧ Zd.le j m ∧ St 25 b a [(0, .int .u64 (e)), (2, .int .i64 (k))] [] m f w ∧ inR .u64 e ∧ inR .i64 k) (fun _ A => ?_) ?_
  · have H := U; rcases Zy (decide ((65536 : Int) ≤ c)) with g | g
    · have H := Zx H g; refine ZE S rfl g (Zh fun _ W => ?_); obtain ⟨ai, B, H⟩ := Zb H; refine Zm (mv S rfl fun f S => ov S rfl (Zj S rfl rfl (ZAb B)) fun f S => mw S rfl fun f S => Zl (Zc (W _ _ ?_))); obtain ⟨aj, C, H⟩ := Zb H; refine Zm (mv S rfl fun f S => ov S rfl (Zj S rfl rfl (Zaa C)) fun f S => mw S rfl fun f S => Zl ?_); obtain rfl := Zg H; refine Zc (A _ _ ⟨_, _, _, rfl, (leR _), (S.fr' rfl), (ZFd v B), (Z9 C).2⟩)
    have H := Zw H g; refine ZF S rfl g (wp_skip ?_); obtain rfl := Zg H; refine Zc (A _ _ ⟨_, _, _, rfl, (leR _), (S.fr' rfl), v, Q⟩)
  rintro f w ⟨e, k, m, hq, ak, S, D, X⟩; subst hq; have H := V; refine Zc (R _ _ (Zh fun _ Y => sr (mv S rfl fun f S => ov S rfl (Zj S rfl rfl Zdb) fun f S => oe ?_))); obtain ⟨Z, aa, ab⟩ := Zb H; refine ZO (fun f w => ∃ (n : Int) (o : Int) (p : Zd), (n, o) = Z ∧ Zd.le m p ∧ St 25 b a [(0, .int .u64 (n)), (2, .int .i64 (o))] [] p f w ∧ inR .u64 n ∧ inR .i64 o) (fun _ E => ?_) ?_
  · have H := aa; rcases Zy (decide ((256 : Int) ≤ e)) with h | h
    · have H := Zx H h; refine ZE S rfl h (Zh fun _ ac => ?_); obtain ⟨al, F, H⟩ := Zb H; refine Zm (mv S rfl fun f S => ov S rfl (Zj S rfl rfl (ZAb F)) fun f S => mw S rfl fun f S => Zl (Zc (ac _ _ ?_))); obtain ⟨am, G, H⟩ := Zb H; refine Zm (mv S rfl fun f S => ov S rfl (Zj S rfl rfl (Zaa G)) fun f S => mw S rfl fun f S => Zl ?_); obtain rfl := Zg H; refine Zc (E _ _ ⟨_, _, _, rfl, (leR _), (S.fr' rfl), (ZFd D F), (Z9 G).2⟩)
    have H := Zw H h; refine ZF S rfl h (wp_skip ?_); obtain rfl := Zg H; refine Zc (E _ _ ⟨_, _, _, rfl, (leR _), (S.fr' rfl), D, X⟩)
  rintro f w ⟨n, o, p, hq, an, S, ao, ap⟩; subst hq; have H := ab; refine Zc (Y _ _ (Zh fun _ ad => ?_)); obtain ⟨aq, ae, H⟩ := Zb H; obtain ⟨af, I, H⟩ := Zb H; refine Zm (mv S rfl fun f S => mv S rfl fun f S => ov S rfl (ZJa S rfl (Zxm _)) fun f S => ov S rfl (ZYn S (l := ([0, 1, 2, 2, 3, 3, 3, 3, 4, 4, 4, 4, 4, 4, 4, 4, 5, 5, 5, 5, 5, 5, 5, 5, 5, 5, 5, 5, 5, 5, 5, 5, 6, 6, 6, 6, 6, 6, 6, 6, 6, 6, 6, 6, 6, 6, 6, 6, 6, 6, 6, 6, 6, 6, 6, 6, 6, 6, 6, 6, 6, 6, 6, 6, 7, 7, 7, 7, 7, 7, 7, 7, 7, 7, 7, 7, 7, 7, 7, 7, 7, 7, 7, 7, 7, 7, 7, 7, 7, 7, 7, 7, 7, 7, 7, 7, 7, 7, 7, 7, 7, 7, 7, 7, 7, 7, 7, 7, 7, 7, 7, 7, 7, 7, 7, 7, 7, 7, 7, 7, 7, 7, 7, 7, 7, 7, 7, 7, 8, 8, 8, 8, 8, 8, 8, 8, 8, 8, 8, 8, 8, 8, 8, 8, 8, 8, 8, 8, 8, 8, 8, 8, 8, 8, 8, 8, 8, 8, 8, 8, 8, 8, 8, 8, 8, 8, 8, 8, 8, 8, 8, 8, 8, 8, 8, 8, 8, 8, 8, 8, 8, 8, 8, 8, 8, 8, 8, 8, 8, 8, 8, 8, 8, 8, 8, 8, 8, 8, 8, 8, 8, 8, 8, 8, 8, 8, 8, 8, 8, 8, 8, 8, 8, 8, 8, 8, 8, 8, 8, 8, 8, 8, 8, 8, 8, 8, 8, 8, 8, 8, 8, 8, 8, 8, 8, 8, 8, 8, 8, 8, 8, 8, 8, 8, 8, 8, 8, 8, 8, 8, 8, 8, 8, 8, 8, 8] : List UInt8)) (by kernel_rfl) rfl Tryz.underlying9 ae) fun f S => ov S rfl (ZJa S rfl (Zrl _)) fun f S => ov S rfl (Zj S rfl rfl (Zaa I)) fun f S => mw S rfl fun f S => Zl (Zc (ad _ _ (wp_ret ?_)))); obtain rfl := Zg H; refine ZA S (ZJ rfl (ZC S rfl)) ⟨[.int .i64 (af)], rfl, (Zq (Z9 I).2)⟩
theorem len64_c {b : World} {a : Zd} (hv : VIn a b) {c : List Value} {x : Int} (e : Rep.rel (Za .u64) a c x) {z : Int} (hm : Zch x = some z) :
    Ret Tryz.prog 196 #[(Za .u64).val c] b a (fun y v' => ∃ d, y = (Za .i64).val d ∧ (Za .i64).rel v' d z) :=
  len64_w hv e (ZHq hm)
theorem lz64_w {b : World} {a : Zd} (hv : VIn a b) {c : List Value} {x : Int} (g : Rep.rel (Za .u64) a c x) {z : Int} (H : Zli x = some z) : Ret Tryz.prog 176 #[(Za .u64).val c] b a (fun y v' => ∃ d, y = (Za .i64).val d ∧ (Za .i64).rel v' d z) := by
  obtain ⟨rfl, h⟩ := g; refine ZT (K := 6) (args := [.int .u64 (x)]) hv Tryz.func176 rfl rfl zl fun f S => ?_; unfold Zli at H; refine sr (mw S rfl fun f S => oe (Zh fun _ i => ?_)); obtain ⟨m, j, H⟩ := Zb H; obtain ⟨k, e, H⟩ := Zb H; refine Zm (mv S rfl fun f S => opc S rfl (Zn S [.int .u64 (x)] k_en196 rfl rfl) (len64_c S.vin (show Rep.rel (Za .u64) _ [.int .u64 (x)] x from (Zq h)) j) ?_); rintro _ n f w o ⟨p, rfl, l⟩ S; obtain ⟨rfl, q⟩ := l; refine ov S rfl (Zj S rfl rfl (ZGa e)) fun f S => mw S rfl fun f S => Zl (Zc (i _ _ (wp_ret ?_))); obtain rfl := Zg H; refine ZA S (ZJ rfl (ZC S rfl)) ⟨[.int .i64 (k)], rfl, (Zq (Z9 e).2)⟩
theorem ZKm {b : World} {a : Zd} (hv : VIn a b) {c : List Value} {x : Int} (e : Rep.rel (Za .u64) a c x) {z : Int} (hm : Z4d x = some z) :
    Ret Tryz.prog 176 #[(Za .u64).val c] b a (fun y v' => ∃ d, y = (Za .i64).val d ∧ (Za .i64).rel v' d z) :=
  lz64_w hv e (Z3p hm)
theorem div64_w {e : World} {c : Zd} (hv : VIn c e) {X : List Value} {hi : Int} (p0 : Rep.rel (Za .u64) c X hi) {Y : List Value} {lo : Int} (p1 : Rep.rel (Za .u64) c Y lo) {Z : List Value} {y : Int} (p2 : Rep.rel (Za .u64) c Z y) {z : Int × Int} (H : ZBg hi lo y = some z) : Ret Tryz.prog 190 #[(Za .u64).val X, (Za .u64).val Y, (Za .u64).val Z] e c (fun y v' => ∃ r0 M, y = .tuple #[(Za .u64).val r0, (Za .u64).val M] ∧ (Za .u64).rel v' r0 z.1 ∧ (Za .u64).rel v' M z.2) := by
  obtain ⟨rfl, M⟩ := p0; obtain ⟨rfl, r2⟩ := p1; obtain ⟨rfl, r3⟩ := p2; refine ZT (K := 135) (args := [.int .u64 (hi), .int .u64 (lo), .int .u64 (y)]) hv Tryz.func190 rfl rfl zl fun f S => ?_; unfold ZBg at H; refine sr (mw S rfl fun f S => mw S rfl fun f S => oe (Zh fun _ an => sr (mv S rfl fun f S => ov S rfl (Zj S rfl rfl Zka) fun f S => oe ?_))); rcases Zy (y == ((0 : Int))) with q | q
  · have H := Zx H q; refine ZE S rfl q ?_
    cases H
  have H := Zw H q; refine ZF S rfl q (wp_skip (Zc (an _ _ (Zh fun _ ao => sr (mv S rfl fun f S => mv S rfl fun f S => ov S rfl (Zj S rfl rfl ZJc) fun f S => oe ?_))))); rcases Zy (decide (y ≤ hi)) with r | r
  · have H := Zx H r; refine ZE S rfl r ?_
    cases H
  have H := Zw H r; refine ZF S rfl r (wp_skip (Zc (ao _ _ (Zh fun _ ap => sr (mv S rfl fun f S => ov S rfl (Zj S rfl rfl Zka) fun f S => oe ?_))))); rcases Zy (hi == ((0 : Int))) with s | s
  · have H := Zx H s; refine ZE S rfl s (Zh fun _ aq => ?_); obtain ⟨ar, aa, H⟩ := Zb H; obtain ⟨au, N, H⟩ := Zb H; refine Zca (fl := #[true, true, true, true, true, true, false, false]) Zfa (by kernel_rfl) S ?_; intro ops O F w S; refine rfa O F 0 rfl rfl S (Zr S rfl) fun f S => rfa O F 1 rfl rfl S (Zr S rfl) fun f S => rfa O F 2 rfl rfl S (Zj S rfl rfl (Z2b aa)) fun f S => rfa O F 3 rfl rfl S (Zr S rfl) fun f S => rfa O F 4 rfl rfl S (Zr S rfl) fun f S => rfa O F 5 rfl rfl S (Zj S rfl rfl (ZHc N)) fun f S => go1 O F 6 (nva [0, 1, 2] [3, 4, 5] O rfl rfl S (Zda S rfl) fun f S => ⟨(py S rfl rfl (Zr S rfl) (py S rfl rfl (Zr S rfl) (py S rfl rfl (Zj S rfl rfl (ZHc N)) Zp))), go1 O F 7 (nva [0, 1, 2, 3, 4, 5, 6] [] O rfl rfl S (Zda S rfl) fun f S => ⟨Zp, Z0 O F (Zc (aq _ _ ?_))⟩)⟩); refine wp_ret (ZN ?_); obtain rfl := Zg H; refine ZA S (ZHa rfl (ZC S rfl) (ZC S rfl)) ⟨[.int .u64 (ar)], [.int .u64 (au)], rfl, (Zq (Z9e aa)), (Zq (Zdk r2 N))⟩
  have H := Zw H s; refine ZF S rfl s (wp_skip (Zc (ap _ _ (Zh fun _ av => ?_)))); obtain ⟨h, aw, H⟩ := Zb H; refine Zm (mv S rfl fun f S => opc S rfl (Zn S [.int .u64 (y)] Z1l rfl rfl) (ZKm S.vin (show Rep.rel (Za .u64) _ [.int .u64 (y)] y from (Zq r3)) aw) ?_); rintro _ ab f w bd ⟨be, rfl, ax⟩ S; obtain ⟨rfl, bf⟩ := ax; refine ov S rfl (ZJa S rfl (Ztj _)) fun f S => mw S rfl fun f S => Zl (Zc (av _ _ (Zh fun _ ay => ?_))); obtain ⟨a, az, H⟩ := Zb H; refine Zm (mv S rfl fun f S => mv S rfl fun f S => ov S rfl (Zj S rfl rfl (ZQd az)) fun f S => mw S rfl fun f S => Zl (Zc (ay _ _ (Zh fun _ aA => ?_)))); obtain ⟨g, aB, H⟩ := Zb H; refine Zm (mv S rfl fun f S => ov S rfl (Zj S rfl rfl (ZAb aB)) fun f S => mw S rfl fun f S => Zl (Zc (aA _ _ (sr (mv S rfl fun f S => ov S rfl (Zj S rfl rfl Zvf) fun f S => mw S rfl fun f S => oe (Zh fun _ aC => ?_)))))); obtain ⟨i, aD, H⟩ := Zb H; obtain ⟨j, aE, H⟩ := Zb H; refine Zm (mv S rfl fun f S => mv S rfl fun f S => ov S rfl (Zj S rfl rfl (ZQd aD)) fun f S => mv S rfl fun f S => mv S rfl fun f S => ov S rfl (Zj S rfl rfl ZCd) fun f S => ov S rfl (Zj S rfl rfl (ZAb aE)) fun f S => ov S rfl (Zj S rfl rfl Z0e) fun f S => mw S rfl fun f S => Zl ?_); have S := S.fr' (σ' := [(1, .int .u64 (lo)), (2, .int .u64 (a)), (8, .int .u64 (IntKind.u64.wrap h)), (9, .int .u64 (g)), (10, .int .u64 (ZTa .u64 a ((4294967295 : Int)))), (11, .int .u64 (orI .u64 i j))]) rfl
  refine Zc (aC _ _ (Zh fun _ aF => ?_)); obtain ⟨k, aG, H⟩ := Zb H; refine Zm (mv S rfl fun f S => mv S rfl fun f S => ov S rfl (Zj S rfl rfl (ZQd aG)) fun f S => mw S rfl fun f S => Zl (Zc (aF _ _ (Zh fun _ aH => ?_)))); obtain ⟨l, aI, H⟩ := Zb H; refine Zm (mv S rfl fun f S => ov S rfl (Zj S rfl rfl (ZAb aI)) fun f S => mw S rfl fun f S => Zl (Zc (aH _ _ (sr (mv S rfl fun f S => ov S rfl (Zj S rfl rfl Zvf) fun f S => mw S rfl fun f S => oe (Zh fun _ aJ => ?_)))))); obtain ⟨bg, ac, H⟩ := Zb H; refine Zm (mv S rfl fun f S => mv S rfl fun f S => ov S rfl (Zj S rfl rfl (Z2b ac)) fun f S => mw S rfl fun f S => Zl (Zc (aJ _ _ (sr (mv S rfl fun f S => mv S rfl fun f S => mv S rfl fun f S => ov S rfl (Zj S rfl rfl Zec) fun f S => ov S rfl (Zj S rfl rfl ZCd) fun f S => mw S rfl fun f S => ?_))))); refine oe (Zh fun _ aK => ?_); obtain ⟨aL, aM, aN⟩ := Zb H; refine ZO (fun f w => ∃ (d : Int) (u : Zd), d = aL ∧ Zd.le ab u ∧ St 135 e c [(2, .int .u64 (a)), (8, .int .u64 (IntKind.u64.wrap h)), (9, .int .u64 (g)), (10, .int .u64 (ZTa .u64 a ((4294967295 : Int)))), (11, .int .u64 (orI .u64 i j)), (13, .int .u64 (l)), (14, .int .u64 (ZTa .u64 k ((4294967295 : Int)))), (15, .int .u64 (d))] [] u f w ∧ inR .u64 d) (fun _ ad => ?_) ?_
  · have H := aM; refine wp_block ?_; obtain ⟨bh, aO, ae⟩ := Zb H; refine Zra aO (fun aP f w => ∃ (m : Int) (n : Int) (G : Zd), (m, n) = aP ∧ Zd.le ab G ∧ St 135 e c [(2, .int .u64 (a)), (8, .int .u64 (IntKind.u64.wrap h)), (9, .int .u64 (g)), (10, .int .u64 (ZTa .u64 a ((4294967295 : Int)))), (11, .int .u64 (orI .u64 i j)), (13, .int .u64 (l)), (14, .int .u64 (ZTa .u64 k ((4294967295 : Int)))), (15, .int .u64 (m)), (16, .int .u64 (n))] [] G f w ∧ inR .u64 m ∧ inR .u64 n) ⟨_, _, _, rfl, (leR _), (S.fr' rfl), (Z9e ac), (Zxa _ _)⟩ ?_; rintro _ f w st ⟨m, n, G, hq, P, S, aQ, bi⟩ H bj aR af; subst hq; refine Zh fun _ aS => Zh fun _ aT => ?_; obtain ⟨aU, aV, aW⟩ := Zb H; refine ZO (fun f w => ∃ (I : Bool) (Q : Zd), I = aU ∧ Zd.le G Q ∧ St 135 e c [(2, .int .u64 (a)), (8, .int .u64 (IntKind.u64.wrap h)), (9, .int .u64 (g)), (10, .int .u64 (ZTa .u64 a ((4294967295 : Int)))), (11, .int .u64 (orI .u64 i j)), (13, .int .u64 (l)), (14, .int .u64 (ZTa .u64 k ((4294967295 : Int)))), (15, .int .u64 (m)), (16, .int .u64 (n)), (78, .bool (I))] [] Q f w) (fun _ ag => ?_) ?_
    · have H := aV; rcases Zy (decide ((4294967296 : Int) ≤ m)) with v | v
      · have H := Zx H v; refine Zm (mv S rfl fun f S => ov S rfl (Zj S rfl rfl Zdb) fun f S => ?_); have S := S.bool (t := 68) rfl v; refine mv S rfl fun f S => opn S rfl rfl rfl rfl fun f S => opn S rfl rfl rfl rfl fun f S => opn S rfl rfl rfl rfl fun f S => opn S rfl rfl rfl rfl fun f S => opn S rfl rfl rfl rfl fun f S => opn S rfl rfl rfl rfl fun f S => opn S rfl rfl rfl rfl fun f S => opn S rfl rfl rfl rfl fun f S => ov S rfl (ZK S (b := true) rfl rfl) fun f S => Zl ?_; obtain rfl := Zg H; refine Zc (ag _ _ ⟨_, _, rfl, (leR _), (S.fr' rfl)⟩)
      have H := Zw H v; refine Zm (mv S rfl fun f S => ov S rfl (Zj S rfl rfl Zdb) fun f S => ?_); have S := S.bool (t := 68) rfl v; refine mv S rfl fun f S => opy S rfl rfl rfl rfl (Zr S rfl) fun f S => opy S rfl rfl rfl rfl (Zr S rfl) fun f S => opy S rfl rfl rfl rfl (Zj S rfl rfl Zec) fun f S => opy S rfl rfl rfl rfl (Zr S rfl) fun f S => opy S rfl rfl rfl rfl (Zj S rfl rfl Zec) fun f S => opy S rfl rfl rfl rfl (Zr S rfl) fun f S => opy S rfl rfl rfl rfl (Zj S rfl rfl ZZb) fun f S => opy S rfl rfl rfl rfl (Zj S rfl rfl ZAa) fun f S => ov S rfl (ZK S (b := false) rfl rfl) fun f S => Zl ?_; obtain rfl := Zg H; refine Zc (ag _ _ ⟨_, _, rfl, (leR _), (S.fr' rfl)⟩)
    rintro f w ⟨I, Q, hq, R, S⟩; subst hq; have H := aW; refine Zc (aT _ _ ?_); rcases Zy (I) with x | x
    · have H := Zx H x; refine ZE S rfl x (wp_skip (Zc (aS _ _ (wp_block (sr (mv S rfl fun f S => ov S rfl (Zj S rfl rfl ZCd) fun f S => mw S rfl fun f S => oe (sr (mv S rfl fun f S => mv S rfl fun f S => ov S rfl (Zj S rfl rfl ZZb) fun f S => mw S rfl fun f S => ?_)))))))); refine oe (sr (mv S rfl fun f S => ov S rfl (Zj S rfl rfl Zdb) fun f S => oe ?_)); rcases Zy (decide ((4294967296 : Int) ≤ IntKind.u64.wrap (n + g))) with A | A
      · have H := Zx H A; refine ZE S rfl A (wp_exit (ZUh rfl ?_)); obtain rfl := Zg H; have hq := af _ rfl; subst hq; have H := ae; refine ZP (Zja ?_); obtain rfl := Zg H; refine Zc (ad _ _ ⟨_, _, rfl, (leT (leT (leR _) P) R), (S.fr' rfl), (Zxa _ _)⟩)
      have H := Zw H A; refine ZF S rfl A (wp_skip (Zma ?_)); obtain rfl := Zg H; refine aR _ rfl _ _ ⟨_, _, _, rfl, (leT P R), (S.fr' rfl), (Zxa _ _), (Zxa _ _)⟩
    have H := Zw H x; refine ZF S rfl x (wp_exit (ZP ?_)); obtain rfl := Zg H; have hq := af _ rfl; subst hq; have H := ae; refine ZP (Zja ?_); obtain rfl := Zg H; refine Zc (ad _ _ ⟨_, _, rfl, (leT (leT (leR _) P) R), (S.fr' rfl), aQ⟩)
  rintro f w ⟨d, u, hq, bk, S, bm⟩; subst hq; have H := aN; refine Zc (aK _ _ (sr (mv S rfl fun f S => ov S rfl (Zj S rfl rfl Zec) fun f S => mv S rfl fun f S => ov S rfl (Zj S rfl rfl ZZb) fun f S => mv S rfl fun f S => mv S rfl fun f S => ov S rfl (Zj S rfl rfl Zec) fun f S => ov S rfl (Zj S rfl rfl ZCd) fun f S => mw S rfl fun f S => oe (Zh fun _ aX => ?_)))); obtain ⟨bn, ah, H⟩ := Zb H; refine Zm (mv S rfl fun f S => mv S rfl fun f S => ov S rfl (Zj S rfl rfl (Z2b ah)) fun f S => mw S rfl fun f S => Zl (Zc (aX _ _ (sr (mv S rfl fun f S => mv S rfl fun f S => mv S rfl fun f S => ov S rfl (Zj S rfl rfl Zec) fun f S => ov S rfl (Zj S rfl rfl ZCd) fun f S => mw S rfl fun f S => ?_))))); refine oe (Zh fun _ aY => ?_); obtain ⟨aZ, a0, a1⟩ := Zb H; refine ZO (fun f w => ∃ (B : Int) (T : Zd), B = aZ ∧ Zd.le u T ∧ St 135 e c [(2, .int .u64 (a)), (8, .int .u64 (IntKind.u64.wrap h)), (14, .int .u64 (ZTa .u64 k ((4294967295 : Int)))), (15, .int .u64 (d)), (17, .int .u64 (IntKind.u64.wrap ((IntKind.u64.wrap ((IntKind.u64.wrap ((orI .u64 i j) * ((4294967296 : Int)))) + l)) - (IntKind.u64.wrap (d * a))))), (18, .int .u64 (B))] [] T f w ∧ inR .u64 B) (fun _ ai => ?_) ?_
  · have H := a0; refine wp_block ?_; obtain ⟨bo, a2, aj⟩ := Zb H; refine Zra a2 (fun a3 f w => ∃ (o : Int) (p : Int) (J : Zd), (o, p) = a3 ∧ Zd.le u J ∧ St 135 e c [(2, .int .u64 (a)), (8, .int .u64 (IntKind.u64.wrap h)), (9, .int .u64 (g)), (10, .int .u64 (ZTa .u64 a ((4294967295 : Int)))), (14, .int .u64 (ZTa .u64 k ((4294967295 : Int)))), (15, .int .u64 (d)), (16, .int .u64 (o)), (17, .int .u64 (IntKind.u64.wrap ((IntKind.u64.wrap ((IntKind.u64.wrap ((orI .u64 i j) * ((4294967296 : Int)))) + l)) - (IntKind.u64.wrap (d * a))))), (18, .int .u64 (p))] [] J f w ∧ inR .u64 o ∧ inR .u64 p) ⟨_, _, _, rfl, (leR _), (S.fr' rfl), (Zxa _ _), (Z9e ah)⟩ ?_; rintro _ f w st ⟨o, p, J, hq, U, S, bp, a4⟩ H bq a5 ak; subst hq; refine Zh fun _ a6 => Zh fun _ a7 => ?_; obtain ⟨a8, a9, ba⟩ := Zb H; refine ZO (fun f w => ∃ (L : Bool) (V : Zd), L = a8 ∧ Zd.le J V ∧ St 135 e c [(2, .int .u64 (a)), (8, .int .u64 (IntKind.u64.wrap h)), (9, .int .u64 (g)), (10, .int .u64 (ZTa .u64 a ((4294967295 : Int)))), (14, .int .u64 (ZTa .u64 k ((4294967295 : Int)))), (15, .int .u64 (d)), (16, .int .u64 (o)), (17, .int .u64 (IntKind.u64.wrap ((IntKind.u64.wrap ((IntKind.u64.wrap ((orI .u64 i j) * ((4294967296 : Int)))) + l)) - (IntKind.u64.wrap (d * a))))), (18, .int .u64 (p)), (113, .bool (L))] [] V f w) (fun _ al => ?_) ?_
    · have H := a9; rcases Zy (decide ((4294967296 : Int) ≤ p)) with C | C
      · have H := Zx H C; refine Zm (mv S rfl fun f S => ov S rfl (Zj S rfl rfl Zdb) fun f S => ?_); have S := S.bool (t := 103) rfl C; refine mv S rfl fun f S => opn S rfl rfl rfl rfl fun f S => opn S rfl rfl rfl rfl fun f S => opn S rfl rfl rfl rfl fun f S => opn S rfl rfl rfl rfl fun f S => opn S rfl rfl rfl rfl fun f S => opn S rfl rfl rfl rfl fun f S => opn S rfl rfl rfl rfl fun f S => opn S rfl rfl rfl rfl fun f S => ov S rfl (ZK S (b := true) rfl rfl) fun f S => Zl ?_; obtain rfl := Zg H; refine Zc (al _ _ ⟨_, _, rfl, (leR _), (S.fr' rfl)⟩)
      have H := Zw H C; refine Zm (mv S rfl fun f S => ov S rfl (Zj S rfl rfl Zdb) fun f S => ?_); have S := S.bool (t := 103) rfl C; refine mv S rfl fun f S => opy S rfl rfl rfl rfl (Zr S rfl) fun f S => opy S rfl rfl rfl rfl (Zr S rfl) fun f S => opy S rfl rfl rfl rfl (Zj S rfl rfl Zec) fun f S => opy S rfl rfl rfl rfl (Zr S rfl) fun f S => opy S rfl rfl rfl rfl (Zj S rfl rfl Zec) fun f S => opy S rfl rfl rfl rfl (Zr S rfl) fun f S => opy S rfl rfl rfl rfl (Zj S rfl rfl ZZb) fun f S => opy S rfl rfl rfl rfl (Zj S rfl rfl ZAa) fun f S => ov S rfl (ZK S (b := false) rfl rfl) fun f S => Zl ?_; obtain rfl := Zg H; refine Zc (al _ _ ⟨_, _, rfl, (leR _), (S.fr' rfl)⟩)
    rintro f w ⟨L, V, hq, W, S⟩; subst hq; have H := ba; refine Zc (a7 _ _ ?_); rcases Zy (L) with D | D
    · have H := Zx H D; refine ZE S rfl D (wp_skip (Zc (a6 _ _ (wp_block (sr (mv S rfl fun f S => ov S rfl (Zj S rfl rfl ZCd) fun f S => mw S rfl fun f S => oe (sr (mv S rfl fun f S => mv S rfl fun f S => ov S rfl (Zj S rfl rfl ZZb) fun f S => mw S rfl fun f S => ?_)))))))); refine oe (sr (mv S rfl fun f S => ov S rfl (Zj S rfl rfl Zdb) fun f S => oe ?_)); rcases Zy (decide ((4294967296 : Int) ≤ IntKind.u64.wrap (o + g))) with E | E
      · have H := Zx H E; refine ZE S rfl E (wp_exit (ZUh rfl ?_)); obtain rfl := Zg H; have hq := ak _ rfl; subst hq; have H := aj; refine ZP (Zja ?_); obtain rfl := Zg H; refine Zc (ai _ _ ⟨_, _, rfl, (leT (leT (leR _) U) W), (S.fr' rfl), (Zxa _ _)⟩)
      have H := Zw H E; refine ZF S rfl E (wp_skip (Zma ?_)); obtain rfl := Zg H; refine a5 _ rfl _ _ ⟨_, _, _, rfl, (leT U W), (S.fr' rfl), (Zxa _ _), (Zxa _ _)⟩
    have H := Zw H D; refine ZF S rfl D (wp_exit (ZP ?_)); obtain rfl := Zg H; have hq := ak _ rfl; subst hq; have H := aj; refine ZP (Zja ?_); obtain rfl := Zg H; refine Zc (ai _ _ ⟨_, _, rfl, (leT (leT (leR _) U) W), (S.fr' rfl), a4⟩)
  rintro f w ⟨B, T, hq, br, S, bs⟩; subst hq; have H := a1; refine Zc (aY _ _ (Zh fun _ bb => ?_)); obtain ⟨bc, am, H⟩ := Zb H; refine Zm (mv S rfl fun f S => ov S rfl (Zj S rfl rfl Zec) fun f S => mv S rfl fun f S => ov S rfl (Zj S rfl rfl ZZb) fun f S => mv S rfl fun f S => ov S rfl (Zj S rfl rfl Zec) fun f S => mv S rfl fun f S => ov S rfl (Zj S rfl rfl ZZb) fun f S => mv S rfl fun f S => mv S rfl fun f S => ov S rfl (Zj S rfl rfl Zec) fun f S => ov S rfl (Zj S rfl rfl ZCd) fun f S => mv S rfl fun f S => ?_); refine ov S rfl (Zj S rfl rfl (ZAb am)) fun f S => mw S rfl fun f S => mw S rfl fun f S => Zl (Zc (bb _ _ (wp_ret ?_))); obtain rfl := Zg H; refine ZA S (ZHa rfl (ZC S rfl) (ZC S rfl)) ⟨[.int .u64 (IntKind.u64.wrap ((IntKind.u64.wrap (d * ((4294967296 : Int)))) + B))], [.int .u64 (bc)], rfl, (Zq (Zxa _ _)), (Zq (ZFd (Zxa _ _) am))⟩
theorem Zql {b : World} {a : Zd} (hv : VIn a b) {c : List Value} {hi : Int} (h : Rep.rel (Za .u64) a c hi) {d : List Value} {lo : Int} (i : Rep.rel (Za .u64) a d lo) {e : List Value} {y : Int} (j : Rep.rel (Za .u64) a e y) {z : Int × Int} (hm : ZMd hi lo y = some z) :
    Ret Tryz.prog 190 #[(Za .u64).val c, (Za .u64).val d, (Za .u64).val e] b a (fun y v' => ∃ f g, y = Value.tuple #[(Za .u64).val f, (Za .u64).val g] ∧ (Za .u64).rel v' f z.1 ∧ (Za .u64).rel v' g z.2) :=
  div64_w hv h i j (Z0p hm)
theorem Z4p {E : World} {d : Zd} (hv : VIn d E) {R : List Value} {a : Nat} (g : Rep.rel ZB d R a) {T : List Value} {n : Int} (p1 : Rep.rel (Za .u64) d T n) {z : Nat × Int} (H : ZPg a n = some z) : Ret Tryz.prog 167 #[ZB.val R, (Za .u64).val T] E d (fun y v' => ∃ U V, y = .tuple #[ZB.val U, (Za .u64).val V] ∧ ZB.rel v' U z.1 ∧ (Za .u64).rel v' V z.2) := by
  obtain ⟨W, X, Y, rfl⟩ := Z1 g; obtain ⟨rfl, r4⟩ := p1; refine ZT (K := 35) (args := [.slice W X Y, .int .u64 (n)]) hv Tryz.func167 rfl rfl zl fun f S => ?_; unfold ZPg at H; refine sr (mw S rfl fun f S => mw S rfl fun f S => oe (Zh fun _ ah => ?_)); obtain ⟨y9, F, H⟩ := Zb H; refine Zm (mv S rfl fun f S => ov S rfl (ZI S (Zv g) rfl rfl ZS) fun f S => ?_); obtain ⟨Z, aa⟩ : ∃ c : List Value, c = (List.replicate ((((Zi 18446744073709551616 a)).length : Int)).toNat [.int .u64 ((0 : Int))]).flatten := ⟨_, rfl⟩; obtain ⟨ai, w, aj, S⟩ := Zjc ZGc S (l := (((Zi 18446744073709551616 a)).length : Int)) (c := (((Zi 18446744073709551616 a)).length : Int)) (Zba F).1 (Zba F).2.1 (Zba F).2.2.1 (Zba F).2.2.2 aa; have ak : Rep.rels (Za .u64) d Z (List.replicate ((((Zi 18446744073709551616 a)).length : Int)).toNat ((0 : Int))) := by rw [aa]; exact ZWb (show Rep.rel (Za .u64) _ [.int .u64 ((0 : Int))] _ from (Zq (by decide))) _
  refine Zoa wn rfl zl (aj rfl rfl) S fun f S => mw S rfl fun f S => Zl (Zc (ah _ _ (sr (mw S rfl fun f S => oe (Zh fun _ al => Zh fun _ am => ?_))))); obtain ⟨aV, ab, H⟩ := Zb H; refine Zm (mv S rfl fun f S => ov S rfl (ZI S (Zv g) rfl rfl ZS) fun f S => ov S rfl (Zj S rfl rfl (ZGa ab)) fun f S => mw S rfl fun f S => Zl (Zc (am _ _ ?_))); obtain ⟨an, ao, ap⟩ := Zb H; refine ZO (fun f w => ∃ (o : (List Int)) (s : Int) (t : Option Nat) (p : Nat) (u : Nat) (L : List Value) (G : Zd), (o, s) = an ∧ Zd.le d G ∧ St 35 E d [(6, .slice (mkA t) (p) u), (7, .int .u64 (s))] [Loc.own t 211 1 (p) u L] G f w ∧ Rep.rels (Za .u64) G L o ∧ p = o.length ∧ inR .u64 s) (fun _ aq => ?_) ?_
  · have H := ao; refine wp_block ?_; obtain ⟨aW, ar, au⟩ := Zb H; refine Zra ar (fun av f w => ∃ (q : (List Int)) (h : Int) (b : Int) (I : Option Nat) (k : Nat) (v : Nat) (e : List Value) (J : Zd), (q, h, b) = av ∧ Zd.le d J ∧ St 35 E d [(0, .slice W X Y), (1, .int .u64 (n)), (6, .slice (mkA I) (k) v), (7, .int .u64 (h)), (8, .int .i64 (b))] [Loc.own I 211 1 (k) v e] J f w ∧ Rep.rels (Za .u64) J e q ∧ k = q.length ∧ inR .u64 h ∧ inR .i64 b) ⟨_, _, _, some ai, ((((Zi 18446744073709551616 a)).length : Int)).toNat, ((((Zi 18446744073709551616 a)).length : Int)).toNat, Z, _, rfl, (leR _), (S.fr' rfl), ak, (ZFb (x := (0 : Int))), (by decide), (Z9 ab).2⟩ ?_; rintro _ f w st ⟨q, h, b, I, k, v, e, J, hq, M, S, B, C, ac, aX⟩ H aY aw ax; subst hq; refine Zh fun _ ay => sr (mv S rfl fun f S => ov S rfl (Zj S rfl rfl Zdb) fun f S => oe ?_); rcases Zy (decide ((0 : Int) ≤ b)) with D | D
    · have H := Zx H D; refine ZE S rfl D (wp_skip (Zc (ay _ _ (Zh fun _ az => wp_block ?_)))); obtain ⟨N, O, H⟩ := Zb H; obtain ⟨m, aA, H⟩ := Zb H; obtain ⟨aZ, r, H⟩ := Zb H; refine Zm (mv S rfl fun f S => mv S rfl fun f S => mv S rfl fun f S => mv S rfl fun f S => mv S rfl fun f S => ?_); have g := Zo M g; obtain ⟨_, a0, a1, a2, rfl, P, aB⟩ := Zla g (Zk O).2.1; obtain ⟨rfl, aC⟩ := aB; refine ov S rfl (ZU S rfl rfl ZS (Zk O).1 (ltI (Zv g) (Zk O).2.2.1)) fun f S => ov S rfl (Z5 S rfl Zza (S.view P)) fun f S => mv S rfl fun f S => opc S rfl (Zn S [.int .u64 (h), .int .u64 (N), .int .u64 (n)] Zjm rfl rfl) (Zql S.vin (show Rep.rel (Za .u64) _ [.int .u64 (h)] h from (Zq ac)) (show Rep.rel (Za .u64) _ [.int .u64 (N)] N from (Zq aC)) (show Rep.rel (Za .u64) _ [.int .u64 (n)] n from (Zq r4)) aA) ?_; rintro _ ad f w Q ⟨a3, a4, rfl, aD, aE⟩ S; have B := ZV Q B; have P := Atm Q P; obtain ⟨rfl, aF⟩ := aD; obtain ⟨rfl, aG⟩ := aE; refine mv S rfl fun f S => ov S rfl (ZM S rfl rfl) fun f S => ov S rfl (ZM S rfl rfl) fun f S => ?_; obtain ⟨aH, rfl⟩ := ZSb S (j := 0) rfl (Z6b C (Zk r).2.2.2); have ae := ZIa B (Zk r).2.1; obtain ⟨a5, aI⟩ : ∃ c, (List.take (Za .u64).n (List.drop ((b).toNat * (Za .u64).n) e)) = c := ⟨_, rfl⟩
      rw [aI] at ae; obtain ⟨rfl, a6⟩ := ae; refine ov S rfl (ZU S rfl rfl ZS (Zk r).1 (ltI C (Zk r).2.2.1)) fun f S => ?_; obtain ⟨w, aJ, S⟩ := ZOb S Zza (off := 0 + (b).toNat * 1) (z := .int .u64 (m.1)) (cs := [.int .u64 (m.1)]) (ZBb rfl) rfl (i := 0) rfl (ZNb S (j := 0) rfl (ltN C (Zk r).2.2.2)) (by first | rfl | simp [ZYa]); have aK : Rep.rels (Za .u64) ad (List.take (0 + (b).toNat * 1) e ++ [Value.int IntKind.u64 (m.1)] ++ List.drop (0 + (b).toNat * 1 + 1) e) (q.set (b).toNat m.1) := ZMb B (Zk r).2.2.2 (show Rep.rel (Za .u64) ad [.int .u64 (m.1)] _ from (Zq aF)) rfl rfl; have aL : k = (q.set (b).toNat m.1).length := ZHb C; refine ZY wn rfl (aJ rfl rfl) (mw S rfl fun f S => Zl (Zma (Zc (az _ _ ?_)))); obtain ⟨a7, af, H⟩ := Zb H; refine Zm (mv S rfl fun f S => ov S rfl (Zj S rfl rfl (ZGa af)) fun f S => mw S rfl fun f S => Zl ?_); obtain rfl := Zg H; refine aw _ rfl _ _ ⟨_, _, _, some aH, k, v, (List.take (0 + (b).toNat * 1) e ++ [Value.int IntKind.u64 (m.1)] ++ List.drop (0 + (b).toNat * 1 + 1) e), _, rfl, (leT M Q), (S.fr' rfl), aK, aL, aG, (Z9 af).2⟩
    have H := Zw H D; refine ZF S rfl D (wp_exit (ZP ?_)); obtain rfl := Zg H; have hq := ax _ rfl; subst hq; have H := au; refine ZP (Zja ?_); obtain rfl := Zg H; refine Zc (aq _ _ ⟨_, _, I, k, v, e, _, rfl, (leT (leR _) M), (S.fr' rfl), B, C, ac⟩)
  rintro f w ⟨o, s, t, p, u, L, G, hq, a8, S, aM, aN, aO⟩; subst hq; have H := ap; refine Zc (al _ _ (Zh fun _ aP => ?_)); obtain ⟨a9, aQ, H⟩ := Zb H; refine Zm (mv S rfl fun f S => ?_); obtain ⟨ba, bb, S, aR⟩ := S.pubSlice (i := 0) (A := (Za .u64)) (l := o) (ℓ' := []) rfl rfl aN aM rfl; refine opc S rfl (Zn S [.slice (mkA t) (p) u] ZOd rfl rfl) (ZJd S.vin (show Rep.rel (Zt (Za .u64)) _ [.slice (mkA t) (p) u] o from aR) aQ) ?_; rintro _ bc f w bd ⟨be, rfl, ag⟩ S; obtain ⟨aS, aT, aU, rfl⟩ := Z1 ag; refine mv S rfl fun f S => mw S rfl fun f S => mw S rfl fun f S => Zl (Zc (aP _ _ (wp_ret ?_))); obtain rfl := Zg H; refine ZA S (ZHa rfl (ZC S rfl) (ZC S rfl)) ⟨[.slice aS aT aU], [.int .u64 (s)], rfl, ag, (Zq aO)⟩
theorem Zgm {c : World} {b : Zd} (hv : VIn b c) {d : List Value} {a : Nat} (i : Rep.rel ZB b d a) {e : List Value} {n : Int} (f : Rep.rel (Za .u64) b e n) {z : Nat × Int} (hm : ZSd a n = some z) :
    Ret Tryz.prog 167 #[ZB.val d, (Za .u64).val e] c b (fun y v' => ∃ g h, y = Value.tuple #[ZB.val g, (Za .u64).val h] ∧ ZB.rel v' g z.1 ∧ (Za .u64).rel v' h z.2) :=
  Z4p hv i f (ZWp f.2 hm)
theorem cmp_w {m : World} {e : Zd} (hv : VIn e m) {A : List Value} {a : (List Int)} (c : Rep.rel (Zt (Za .u64)) e A a) {B : List Value} {b : (List Int)} (d : Rep.rel (Zt (Za .u64)) e B b) {z : Int} (H : Z6h a b = some z) : Ret Tryz.prog 87 #[(Zt (Za .u64)).val A, (Zt (Za .u64)).val B] m e (fun y v' => ∃ C, y = (Za .i64).val C ∧ (Za .i64).rel v' C z) := by
  obtain ⟨D, E, G, rfl⟩ := Zta c; obtain ⟨I, J, L, rfl⟩ := Zta d; refine ZT (K := 41) (args := [.slice D (E) G, .slice I (J) L]) hv Tryz.func87 rfl rfl zl fun f S => ?_; unfold Z6h at H; refine sr (mw S rfl fun f S => oe (Zh fun _ P => sr (mv S rfl fun f S => ov S rfl (ZI S (Zv c) rfl rfl ZS) fun f S => mv S rfl fun f S => ov S rfl (ZI S (Zv d) rfl rfl ZS) fun f S => ov S rfl (Zj S rfl rfl Zib) fun f S => oe ?_))); rcases Zy (((a.length : Int)) != ((b.length : Int))) with g | g
  · have H := Zx H g; refine ZE S rfl g (Zh fun _ Q => sr (mv S rfl fun f S => ov S rfl (ZI S (Zv c) rfl rfl ZS) fun f S => mv S rfl fun f S => ov S rfl (ZI S (Zv d) rfl rfl ZS) fun f S => ov S rfl (Zj S rfl rfl Z4) fun f S => oe ?_)); rcases Zy (decide ((a.length : Int) < (b.length : Int))) with h | h
    · have H := Zx H h; refine ZE S rfl h (sr (mw S rfl fun f S => oe (wp_ret (ZN (ZN ?_))))); obtain rfl := Zg H; refine ZA S (ZJ rfl (ZC S rfl)) ⟨[.int .i64 ((-1 : Int))], rfl, (Zq (by decide))⟩
    have H := Zw H h; refine ZF S rfl h (wp_skip (Zc (Q _ _ (sr (mw S rfl fun f S => oe (wp_ret (ZN ?_))))))); obtain rfl := Zg H; refine ZA S (ZJ rfl (ZC S rfl)) ⟨[.int .i64 ((1 : Int))], rfl, (Zq (by decide))⟩
  have H := Zw H g; refine ZF S rfl g (wp_skip (Zc (P _ _ (Zh fun _ R => Zh fun _ T => ?_)))); obtain ⟨ar, M, H⟩ := Zb H; refine Zm (mv S rfl fun f S => ov S rfl (ZI S (Zv c) rfl rfl ZS) fun f S => ov S rfl (Zj S rfl rfl (ZGa M)) fun f S => mw S rfl fun f S => Zl (Zc (T _ _ ?_))); obtain ⟨U, V, o⟩ := Zb H; refine ZO (fun f w => ∃  (p : Zd), (.inl (())) = U ∧ Zd.le e p ∧ St 41 m e [] [] p f w) (fun _ W => ?_) ?_
  · have H := V; refine wp_block ?_; obtain ⟨au, X, q⟩ := Zb H; refine Zra X (fun Y f w => ∃ (i : Int) (r : Zd), i = Y ∧ Zd.le e r ∧ St 41 m e [(0, .slice D (E) G), (1, .slice I (J) L), (5, .int .i64 (i))] [] r f w ∧ inR .i64 i) ⟨_, _, rfl, (leR _), (S.fr' rfl), (Z9 M).2⟩ ?_; rintro _ f w st ⟨i, r, hq, n, S, av⟩ H aw Z s; subst hq; refine Zh fun _ aa => sr (mv S rfl fun f S => ov S rfl (Zj S rfl rfl Zdb) fun f S => oe ?_); rcases Zy (decide ((0 : Int) ≤ i)) with j | j
    · have H := Zx H j; refine ZE S rfl j (wp_skip (Zc (aa _ _ (Zh fun _ ab => wp_block (Zh fun _ ac => Zh fun _ ad => ?_))))); obtain ⟨ae, t, H⟩ := Zb H; obtain ⟨af, u, H⟩ := Zb H; refine Zca (fl := #[true, true, true, true, true, true, true, true, true]) Zfa (by kernel_rfl) S ?_; intro ops O F w S; refine rfa O F 0 rfl rfl S (Zr S rfl) fun f S => rfa O F 1 rfl rfl S (Zr S rfl) fun f S => ?_; have c := Zo n c; obtain ⟨_, ax, ay, az, rfl, ag, ah⟩ := Zla c (Zk t).2.1; obtain ⟨rfl, aA⟩ := ah; refine rfa O F 2 rfl rfl S (ZU S rfl rfl ZS (Zk t).1 (ltI (Zv c) (Zk t).2.2.1)) fun f S => rfa O F 3 rfl rfl S (Z5 S rfl Zza (S.view ag)) fun f S => rfa O F 4 rfl rfl S (Zr S rfl) fun f S => rfa O F 5 rfl rfl S (Zr S rfl) fun f S => ?_; have d := Zo n d; obtain ⟨_, aB, aC, aD, rfl, ai, aj⟩ := Zla d (Zk u).2.1; obtain ⟨rfl, aE⟩ := aj; refine rfa O F 6 rfl rfl S (ZU S rfl rfl ZS (Zk u).1 (ltI (Zv d) (Zk u).2.2.1)) fun f S => rfa O F 7 rfl rfl S (Z5 S rfl Zza (S.view ai)) fun f S => rfa O F 8 rfl rfl S (Zj S rfl rfl Z4) fun f S => Z0 O F (Zc (ad _ _ ?_)); rcases Zy (decide (ae < af)) with k | k
      · have H := Zx H k; refine ZE S rfl k (sr (mw S rfl fun f S => oe (wp_ret (ZN (ZUa (ZN ?_)))))); obtain rfl := Zg H; have hq := s _ rfl; subst hq; have H := q; refine ZN (ZUa ?_); obtain rfl := Zg H; have H := o; refine ZN (ZN ?_); obtain rfl := Zg H; refine ZA S (ZJ rfl (ZC S rfl)) ⟨[.int .i64 ((-1 : Int))], rfl, (Zq (by decide))⟩
      have H := Zw H k; refine ZF S rfl k (wp_skip (Zc (ac _ _ (Zh fun _ ak => ?_)))); obtain ⟨al, v, H⟩ := Zb H; obtain ⟨am, x, H⟩ := Zb H; refine Zca (fl := #[true, true, true, true, true, true, true, true, true]) Zfa (by kernel_rfl) S ?_; intro ops O F w S; refine rfa O F 0 rfl rfl S (Zr S rfl) fun f S => rfa O F 1 rfl rfl S (Zr S rfl) fun f S => ?_; obtain ⟨aF, an, ao⟩ := Z2c c (Zk v).2.1; obtain ⟨rfl, aG⟩ := ao; refine rfa O F 2 rfl rfl S (ZU S rfl rfl ZS (Zk v).1 (ltI (Zv c) (Zk v).2.2.1)) fun f S => rfa O F 3 rfl rfl S (Z5 S rfl Zza (S.view an)) fun f S => rfa O F 4 rfl rfl S (Zr S rfl) fun f S => rfa O F 5 rfl rfl S (Zr S rfl) fun f S => ?_; obtain ⟨aH, ap, aq⟩ := Z2c d (Zk x).2.1; obtain ⟨rfl, aI⟩ := aq; refine rfa O F 6 rfl rfl S (ZU S rfl rfl ZS (Zk x).1 (ltI (Zv d) (Zk x).2.2.1)) fun f S => rfa O F 7 rfl rfl S (Z5 S rfl Zza (S.view ap)) fun f S => rfa O F 8 rfl rfl S (Zj S rfl rfl ZAa) fun f S => Z0 O F (Zc (ak _ _ ?_)); rcases Zy (decide (am < al)) with l | l
      · have H := Zx H l; refine ZE S rfl l (sr (mw S rfl fun f S => oe (wp_ret (ZUa (ZN ?_))))); obtain rfl := Zg H; have hq := s _ rfl; subst hq; have H := q; refine ZN (ZUa ?_); obtain rfl := Zg H; have H := o; refine ZN (ZN ?_); obtain rfl := Zg H; refine ZA S (ZJ rfl (ZC S rfl)) ⟨[.int .i64 ((1 : Int))], rfl, (Zq (by decide))⟩
      have H := Zw H l; refine ZF S rfl l (wp_skip (Zma (Zc (ab _ _ ?_)))); obtain ⟨aJ, N, H⟩ := Zb H; refine Zm (mv S rfl fun f S => ov S rfl (Zj S rfl rfl (ZGa N)) fun f S => mw S rfl fun f S => Zl ?_); obtain rfl := Zg H; refine Z _ rfl _ _ ⟨_, _, rfl, n, (S.fr' rfl), (Z9 N).2⟩
    have H := Zw H j; refine ZF S rfl j (wp_exit (ZP ?_)); obtain rfl := Zg H; have hq := s _ rfl; subst hq; have H := q; refine ZP (Zja ?_); obtain rfl := Zg H; refine Zc (W _ _ ⟨_, rfl, (leT (leR _) n), (S.fr' rfl)⟩)
  rintro f w ⟨p, hq, aK, S⟩; subst hq; have H := o; refine Zc (R _ _ (sr (mw S rfl fun f S => oe (wp_ret ?_)))); obtain rfl := Zg H; refine ZA S (ZJ rfl (ZC S rfl)) ⟨[.int .i64 ((0 : Int))], rfl, (Zq (by decide))⟩
theorem ZAf {d : World} {c : Zd} (hv : VIn c d) {e : List Value} {a : Nat} (f : Rep.rel ZB c e a) {g : List Value} {b : Nat} (h : Rep.rel ZB c g b) {z : Int} (hm : ZDd a b = some z) :
    Ret Tryz.prog 87 #[ZB.val e, ZB.val g] d c (fun y v' => ∃ i, y = (Za .i64).val i ∧ (Za .i64).rel v' i z) :=
  cmp_w hv f h ((cmp_eq (Zxl f) (Zxl h)).trans hm)
theorem mul64_w {e : World} {a : Zd} (hv : VIn a e) {g : List Value} {x : Int} (l : Rep.rel (Za .u64) a g x) {h : List Value} {y : Int} (m : Rep.rel (Za .u64) a h y) {z : Int × Int} (H : Zog x y = some z) : Ret Tryz.prog 147 #[(Za .u64).val g, (Za .u64).val h] e a (fun y v' => ∃ i c, y = .tuple #[(Za .u64).val i, (Za .u64).val c] ∧ (Za .u64).rel v' i z.1 ∧ (Za .u64).rel v' c z.2) := by
  obtain ⟨rfl, c⟩ := l; obtain ⟨rfl, B⟩ := m; refine ZT (K := 51) (args := [.int .u64 (x), .int .u64 (y)]) hv Tryz.func147 rfl rfl zl fun f S => ?_; unfold Zog at H; refine sr (mw S rfl fun f S => mw S rfl fun f S => oe (sr (mv S rfl fun f S => ov S rfl (Zj S rfl rfl Zvf) fun f S => mw S rfl fun f S => oe (Zh fun _ n => ?_)))); obtain ⟨b, o, H⟩ := Zb H; refine Zm (mv S rfl fun f S => ov S rfl (Zj S rfl rfl (ZAb o)) fun f S => mw S rfl fun f S => Zl (Zc (n _ _ (sr (mv S rfl fun f S => ov S rfl (Zj S rfl rfl Zvf) fun f S => mw S rfl fun f S => oe (Zh fun _ p => ?_)))))); obtain ⟨d, q, H⟩ := Zb H; refine Zm (mv S rfl fun f S => ov S rfl (Zj S rfl rfl (ZAb q)) fun f S => mw S rfl fun f S => Zl (Zc (p _ _ (sr (mv S rfl fun f S => mv S rfl fun f S => ov S rfl (Zj S rfl rfl Zec) fun f S => mw S rfl fun f S => oe (Zh fun _ r => ?_)))))); obtain ⟨s, t, H⟩ := Zb H; refine Zm (mv S rfl fun f S => mv S rfl fun f S => ov S rfl (Zj S rfl rfl Zec) fun f S => mv S rfl fun f S => ov S rfl (Zj S rfl rfl (ZAb t)) fun f S => ov S rfl (Zj S rfl rfl ZZb) fun f S => mw S rfl fun f S => Zl ?_); have S := S.fr' (σ' := [(0, .int .u64 (x)), (1, .int .u64 (y)), (6, .int .u64 (ZTa .u64 x ((4294967295 : Int)))), (7, .int .u64 (b)), (9, .int .u64 (d)), (11, .int .u64 (IntKind.u64.wrap ((IntKind.u64.wrap (b * (ZTa .u64 y ((4294967295 : Int))))) + s)))]) rfl
  refine Zc (r _ _ (sr (mv S rfl fun f S => ov S rfl (Zj S rfl rfl Zvf) fun f S => mw S rfl fun f S => oe (Zh fun _ u => ?_)))); obtain ⟨j, v, H⟩ := Zb H; refine Zm (mv S rfl fun f S => ov S rfl (Zj S rfl rfl (ZAb v)) fun f S => mw S rfl fun f S => Zl (Zc (u _ _ (sr (mv S rfl fun f S => mv S rfl fun f S => mv S rfl fun f S => ov S rfl (Zj S rfl rfl Zec) fun f S => ov S rfl (Zj S rfl rfl ZZb) fun f S => mw S rfl fun f S => oe ?_))))); refine Zh fun _ w => ?_; obtain ⟨k, A, H⟩ := Zb H; refine Zm (mv S rfl fun f S => mv S rfl fun f S => ov S rfl (Zj S rfl rfl Zec) fun f S => mv S rfl fun f S => ov S rfl (Zj S rfl rfl ZZb) fun f S => mv S rfl fun f S => ov S rfl (Zj S rfl rfl (ZAb A)) fun f S => ov S rfl (Zj S rfl rfl ZZb) fun f S => mw S rfl fun f S => Zl (Zc (w _ _ (sr (mv S rfl fun f S => ?_))))); refine mv S rfl fun f S => ov S rfl (Zj S rfl rfl Zec) fun f S => mw S rfl fun f S => ?_; have S := S.fr' (σ' := [(4, .int .u64 (IntKind.u64.wrap ((IntKind.u64.wrap ((IntKind.u64.wrap (b * d)) + j)) + k))), (5, .int .u64 (IntKind.u64.wrap (x * y)))]) rfl; refine oe (wp_ret ?_); obtain rfl := Zg H; refine ZA S (ZHa rfl (ZC S rfl) (ZC S rfl)) ⟨[.int .u64 (IntKind.u64.wrap ((IntKind.u64.wrap ((IntKind.u64.wrap (b * d)) + j)) + k))], [.int .u64 (IntKind.u64.wrap (x * y))], rfl, (Zq (Zxa _ _)), (Zq (Zxa _ _))⟩
theorem Z4j {b : World} {a : Zd} (hv : VIn a b) {c : List Value} {x : Int} (g : Rep.rel (Za .u64) a c x) {d : List Value} {y : Int} (h : Rep.rel (Za .u64) a d y) {z : Int × Int} (hm : ZLd x y = some z) :
    Ret Tryz.prog 147 #[(Za .u64).val c, (Za .u64).val d] b a (fun y v' => ∃ e f, y = Value.tuple #[(Za .u64).val e, (Za .u64).val f] ∧ (Za .u64).rel v' e z.1 ∧ (Za .u64).rel v' f z.2) :=
  mul64_w hv g h (ZYo hm)
theorem take_w {R : World} {o : Zd} (hv : VIn o R) {a off0 g C : Nat} {E : TypeId} {pre0 cs0 post0 : List Value} {u : (List Int)} (bf : R.heap[a]? = some (.cells (pre0 ++ cs0 ++ post0).toArray E (0, 0))) (aG : off0 = pre0.length) (bg : o a = none) (au : g = u.length) (bh : g ≤ C ∧ C ≤ maxLen) (r : Rep.rels (Za .u64) o cs0 u) {c1 : List Value} {v : Nat} (D : Rep.rel ZB o c1 v) {c2 : List Value} {q : Int} (p2 : Rep.rel (Za .u64) o c2 q) {z : Bool × (List Int)} (H : ZTg u v q = some z) : RetL Tryz.prog 197 #[.slice (some ⟨a, off0, none⟩) g C, ZB.val c1, (Za .u64).val c2] R o [a] (fun y v' w' => (∃ r0, y = Z3.val r0 ∧ Z3.rel v' r0 z.1) ∧ v' a = none ∧ ∃ cs, w'.heap[a]? = some (.cells (pre0 ++ cs ++ post0).toArray E (0, 0)) ∧ g = z.2.length ∧ Rep.rels (Za .u64) v' cs z.2) := by
  obtain ⟨q1, V, W, rfl⟩ := Z1 D; obtain ⟨rfl, r4⟩ := p2; refine ZZk (K := 79) (args := [.slice (some ⟨a, off0, none⟩) (g) C, .slice q1 V W, .int .u64 (q)]) hv bf bg Tryz.func197 rfl rfl zl fun f S => ?_; unfold ZTg at H; refine sr (mw S rfl fun f S => oe (Zh fun _ bi => ?_)); obtain ⟨J, bj, H⟩ := Zb H; obtain ⟨cA, av, H⟩ := Zb H; refine Zm (mv S rfl fun f S => ov S rfl (ZI S (Zv D) rfl rfl ZS) fun f S => ov S rfl (Zj S rfl rfl (Zaa bj)) fun f S => ?_); obtain ⟨aH, aQ⟩ : ∃ c : List Value, c = (List.replicate (J).toNat [.int .u64 ((0 : Int))]).flatten := ⟨_, rfl⟩; obtain ⟨aR, w, bk, S⟩ := Zjc ZGc S (l := J) (c := J) (Zba av).1 (Zba av).2.1 (Zba av).2.2.1 (Zba av).2.2.2 aQ; have bm : Rep.rels (Za .u64) o aH (List.replicate (J).toNat ((0 : Int))) := by rw [aQ]; exact ZWb (show Rep.rel (Za .u64) _ [.int .u64 ((0 : Int))] _ from (Zq (by decide))) _
  refine Zoa wn rfl zl (bk rfl rfl) S fun f S => mw S rfl fun f S => Zl (Zc (bi _ _ (sr (mw S rfl fun f S => oe (Zh fun _ bn => sr (mv S rfl fun f S => ov S rfl (ZI S (Zv D) rfl rfl ZS) fun f S => mv S rfl fun f S => oe ?_)))))); obtain ⟨bo, bp, bq⟩ := Zb H; refine ZO (fun f w => ∃ (L : (List Int)) (b : Int) (aI : Option Nat) (s : Nat) (G : Nat) (h : List Value) (X : Zd), (L, b) = bo ∧ Zd.le o X ∧ St 79 ⟨R, [a]⟩ o [(0, .slice (some ⟨a, off0, none⟩) (g) C), (1, .slice q1 V W), (7, .slice (mkA aI) (s) G), (8, .int .u64 (b))] [Loc.box a E (pre0 ++ cs0 ++ post0), Loc.own aI 211 1 (s) G h] X f w ∧ Rep.rels (Za .u64) X h L ∧ s = L.length ∧ inR .u64 b) (fun _ br => ?_) ?_
  · have H := bp; refine wp_block ?_; obtain ⟨cB, bs, bt⟩ := Zb H; have S := S.reorder (ℓ' := [Loc.box a E (pre0 ++ cs0 ++ post0), Loc.own (some aR) 211 1 ((J).toNat) (J).toNat aH]) [1, 0] rfl (by decide); refine Zra bs (fun bu f w => ∃ (Y : (List Int)) (ag : Int) (m : Int) (aw : Option Nat) (M : Nat) (Z : Nat) (I : List Value) (ax : Zd), (Y, ag, m) = bu ∧ Zd.le o ax ∧ St 79 ⟨R, [a]⟩ o [(0, .slice (some ⟨a, off0, none⟩) (g) C), (1, .slice q1 V W), (2, .int .u64 (q)), (7, .slice (mkA aw) (M) Z), (8, .int .u64 (ag)), (20, .slice q1 V W), (21, .int .i64 ((((Zi 18446744073709551616 v)).length : Int))), (22, .int .i64 (m))] [Loc.box a E (pre0 ++ cs0 ++ post0), Loc.own aw 211 1 (M) Z I] ax f w ∧ Rep.rels (Za .u64) ax I Y ∧ M = Y.length ∧ inR .u64 ag ∧ inR .i64 m) ⟨_, _, _, some aR, (J).toNat, (J).toNat, aH, _, rfl, (leR _), (S.fr' rfl), bm, (ZFb (x := (0 : Int))), (by decide), (by decide)⟩ ?_; rintro _ f w st ⟨Y, ag, m, aw, M, Z, I, ax, hq, ay, S, ah, ai, bv, cC⟩ H cD bw bx; subst hq; have r := ZV ay r; refine sr (ov S rfl (Zj S rfl rfl Z4) fun f S => oe (Zh fun _ bz => ?_)); rcases Zy (decide (m < (((Zi 18446744073709551616 v)).length : Int))) with aj | aj
    · have H := Zx H aj; refine ZE S rfl aj (wp_skip (Zc (bz _ _ (Zh fun _ bA => wp_block (Zh fun _ bB => ?_))))); obtain ⟨aJ, aK, H⟩ := Zb H; refine Zm (mv S rfl fun f S => ?_); have D := Zo ay D; obtain ⟨_, aS, aT, cE, rfl, bC, bD⟩ := Zla D (Zk aK).2.1; obtain ⟨rfl, bE⟩ := bD; refine ov S rfl (ZU S rfl rfl ZS (Zk aK).1 (ltI (Zv D) (Zk aK).2.2.1)) fun f S => ov S rfl (Z5 S rfl Zza (S.view bC)) fun f S => mw S rfl fun f S => mw S rfl fun f S => Zl (Zc (bB _ _ (Zh fun _ bF => ?_))); obtain ⟨aU, bG, H⟩ := Zb H; refine Zm (mv S rfl fun f S => mv S rfl fun f S => opc S rfl (Zn S [.int .u64 (aJ), .int .u64 (q)] Z3j rfl rfl) (Z4j S.vin (show Rep.rel (Za .u64) _ [.int .u64 (aJ)] aJ from (Zq bE)) (show Rep.rel (Za .u64) _ [.int .u64 (q)] q from (Zq r4)) bG) ?_); rintro _ aV f w aL ⟨cF, cG, rfl, bH, bI⟩ S; have r := ZV aL r; have ah := ZV aL ah; obtain ⟨rfl, cH⟩ := bH; obtain ⟨rfl, cI⟩ := bI; refine mv S rfl fun f S => ov S rfl (ZM S rfl rfl) fun f S => ov S rfl (ZM S rfl rfl) fun f S => mw S rfl fun f S => mw S rfl fun f S => Zl (Zc (bF _ _ (sr (mw S rfl fun f S => oe (Zh fun _ bJ => ?_))))); obtain ⟨N, aW, H⟩ := Zb H; obtain ⟨cJ, aa, H⟩ := Zb H; refine Zm (mv S rfl fun f S => mv S rfl fun f S => mv S rfl fun f S => mv S rfl fun f S => ov S rfl (ZGe S [.int .u64 (aU.2), .int .u64 (ag), .int .u64 ((0 : Int))] (Zvg Zdh aW) rfl rfl) fun f S => mv S rfl fun f S => ov S rfl (ZM S rfl rfl) fun f S => ov S rfl (ZM S rfl rfl) fun f S => ?_)
      obtain ⟨aX, rfl⟩ := ZSb S (j := 1) rfl (Z6b ai (Zk aa).2.2.2); have aY := ZIa ah (Zk aa).2.1; obtain ⟨cK, bK⟩ : ∃ c, (List.take (Za .u64).n (List.drop ((m).toNat * (Za .u64).n) I)) = c := ⟨_, rfl⟩; rw [bK] at aY; obtain ⟨rfl, cL⟩ := aY; refine ov S rfl (ZU S rfl rfl ZS (Zk aa).1 (ltI ai (Zk aa).2.2.1)) fun f S => ?_; obtain ⟨w, bL, S⟩ := ZOb S Zza (off := 0 + (m).toNat * 1) (z := .int .u64 (N.1)) (cs := [.int .u64 (N.1)]) (ZBb rfl) rfl (i := 1) rfl (ZNb S (j := 1) rfl (ltN ai (Zk aa).2.2.2)) (by first | rfl | simp [ZYa]); have bM : Rep.rels (Za .u64) aV (List.take (0 + (m).toNat * 1) I ++ [Value.int IntKind.u64 (N.1)] ++ List.drop (0 + (m).toNat * 1 + 1) I) (Y.set (m).toNat N.1) := ZMb ah (Zk aa).2.2.2 (show Rep.rel (Za .u64) aV [.int .u64 (N.1)] _ from (Zq (Zoj aW))) rfl rfl; have bN : M = (Y.set (m).toNat N.1).length := ZHb ai; refine ZY wn rfl (bL rfl rfl) (mw S rfl fun f S => Zl ?_); have S := S.fr' (σ' := [(0, .slice (some ⟨a, off0, none⟩) (g) C), (1, .slice (some ⟨aS, aT, none⟩) V W), (2, .int .u64 (q)), (7, .slice (mkA (some aX)) (M) Z), (11, .int .u64 (aU.1)), (13, .int .u64 (N.2)), (20, .slice (some ⟨aS, aT, none⟩) V W), (21, .int .i64 ((((Zi 18446744073709551616 v)).length : Int))), (22, .int .i64 (m))]) rfl
      refine Zc (bJ _ _ (Zm (mv S rfl fun f S => mv S rfl fun f S => ov S rfl (Zj S rfl rfl ZZb) fun f S => mw S rfl fun f S => Zl (Zma (Zc (bA _ _ ?_)))))); obtain ⟨cM, aZ, H⟩ := Zb H; refine Zm (ov S rfl (Zj S rfl rfl (Zaa aZ)) fun f S => mv S rfl fun f S => Zl ?_); obtain rfl := Zg H; refine bw _ rfl _ _ ⟨_, _, _, some aX, M, Z, (List.take (0 + (m).toNat * 1) I ++ [Value.int IntKind.u64 (N.1)] ++ List.drop (0 + (m).toNat * 1 + 1) I), _, rfl, (leT ay aL), (S.fr' rfl), bM, bN, (Zxa _ _), (Z9 aZ).2⟩
    have H := Zw H aj; refine ZF S rfl aj (wp_exit (ZP ?_)); obtain rfl := Zg H; have hq := bx _ rfl; subst hq; have H := bt; refine ZP (Zja ?_); obtain rfl := Zg H; refine Zc (br _ _ ⟨_, _, aw, M, Z, I, _, rfl, (leT (leR _) ay), (S.fr' rfl), ah, ai, bv⟩)
  rintro f w ⟨L, b, aI, s, G, h, X, hq, a0, S, a1, az, bO⟩; subst hq; have H := bq; have r := ZV a0 r; refine Zc (bn _ _ (Zh fun _ bP => ?_)); obtain ⟨cN, ab, H⟩ := Zb H; refine Zm (mv S rfl fun f S => mv S rfl fun f S => ?_); have D := Zo a0 D; refine ov S rfl (ZI S (Zv D) rfl rfl ZS) fun f S => mv S rfl fun f S => ?_; obtain ⟨ac, rfl⟩ := ZSb S (j := 1) rfl (Z6b az (Zk ab).2.2.2); have a2 := ZIa a1 (Zk ab).2.1; obtain ⟨cO, bQ⟩ : ∃ c, (List.take (Za .u64).n (List.drop (((((Zi 18446744073709551616 v)).length : Int)).toNat * (Za .u64).n) h)) = c := ⟨_, rfl⟩; rw [bQ] at a2; obtain ⟨rfl, cP⟩ := a2; refine ov S rfl (ZU S rfl rfl ZS (Zk ab).1 (ltI az (Zk ab).2.2.1)) fun f S => ?_; obtain ⟨w, bR, S⟩ := ZOb S Zza (off := 0 + ((((Zi 18446744073709551616 v)).length : Int)).toNat * 1) (z := .int .u64 (b)) (cs := [.int .u64 (b)]) (ZBb rfl) rfl (i := 1) rfl (ZNb S (j := 1) rfl (ltN az (Zk ab).2.2.2)) (by first | rfl | simp [ZYa]); have p : Rep.rels (Za .u64) X (List.take (0 + ((((Zi 18446744073709551616 v)).length : Int)).toNat * 1) h ++ [Value.int IntKind.u64 (b)] ++ List.drop (0 + ((((Zi 18446744073709551616 v)).length : Int)).toNat * 1 + 1) h) (L.set ((((Zi 18446744073709551616 v)).length : Int)).toNat b) := ZMb a1 (Zk ab).2.2.2 (show Rep.rel (Za .u64) X [.int .u64 (b)] _ from (Zq bO)) rfl rfl
  have aM : s = (L.set ((((Zi 18446744073709551616 v)).length : Int)).toNat b).length := ZHb az; refine ZY wn rfl (bR rfl rfl) (Zl (Zc (bP _ _ (Zh fun _ bS => Zh fun _ bT => ?_)))); obtain ⟨cQ, bU, H⟩ := Zb H; obtain ⟨cR, bV, H⟩ := Zb H; obtain ⟨bW, bX, H⟩ := Zb H; refine Zm (mv S rfl fun f S => ?_); have p0s120 := r; have h69s120 := p; have bY := S.vst.le; obtain ⟨cS, cT, a3, t, S, bZ, b1, b2, T⟩ := S.lendSeg (i := 0) (A := (Za .u64)) (l := u) (ℓ' := [Loc.own (some ac) 211 1 (s) G ((List.take (0 + ((((Zi 18446744073709551616 v)).length : Int)).toNat * 1) h ++ [Value.int IntKind.u64 (b)] ++ List.drop (0 + ((((Zi 18446744073709551616 v)).length : Int)).toNat * 1 + 1) h))]) rfl rfl aG r au bh; have p := ZV a3 p; refine opc S rfl (Zn S [.slice (some ⟨a, off0, none⟩) (g) C] ZOd rfl rfl) (ZJd S.vin (show Rep.rel (Zt (Za .u64)) _ [.slice (some ⟨a, off0, none⟩) (g) C] u from T) bU) ?_; rintro _ cU f w aA ⟨cV, rfl, P⟩ S; have p := ZV aA p; have t := aA _ _ t; obtain ⟨b3, b4, b5, rfl⟩ := Z1 P; refine mv S rfl fun f S => ?_; have T := Zo aA T; have h128s137 := T; have h69s137 := p; have h133s137 := P; have h124s137 := t; have b6 := S.vst.le; obtain ⟨cW, cX, aB, ak, S, b7, b8, b9, ca⟩ := S.lendSlice (i := 0) (A := (Za .u64)) (l := (L.set ((((Zi 18446744073709551616 v)).length : Int)).toNat b)) (ℓ' := []) rfl rfl rfl p aM
  have t := aB _ _ t; refine opc S rfl (Zn S [.slice (mkA (some ac)) (s) G] ZOd rfl rfl) (ZJd S.vin (show Rep.rel (Zt (Za .u64)) _ [.slice (mkA (some ac)) (s) G] ((L.set ((((Zi 18446744073709551616 v)).length : Int)).toNat b)) from ca) bV) ?_; rintro _ cY f w al ⟨cZ, rfl, a4⟩ S; have t := al _ _ t; have ak := al _ _ ak; obtain ⟨cb, cc, cd, rfl⟩ := Z1 a4; have P := Zo (leT aB al) P; refine opc S rfl (Zn S [.slice b3 b4 b5, .slice cb cc cd] ZSf rfl rfl) (ZAf S.vin P a4 bX) ?_; rintro _ c0 f w am ⟨c3, rfl, ce⟩ S; have t := am _ _ t; have ak := am _ _ ak; obtain ⟨rfl, c4⟩ := ce; refine ov S rfl (Zj S rfl rfl Z4) fun f S => Zl ?_; obtain ⟨c5, an, S⟩ := S.takeBack (e := Loc.own (some ac) 211 1 (s) G ((List.take (0 + ((((Zi 18446744073709551616 v)).length : Int)).toNat * 1) h ++ [Value.int IntKind.u64 (b)] ++ List.drop (0 + ((((Zi 18446744073709551616 v)).length : Int)).toNat * 1 + 1) h))) (leT (leT aB al) am) rfl ak b7 b8 b6 b9; have T := Zo (leT (leT aB al) am) T; have T := Zo an h128s137; have p := ZV an h69s137; have P := Zo am P; have P := Zo an h133s137; have t := an _ _ h124s137; obtain ⟨a5, a6, S⟩ := S.takeBack (e := Loc.box a E (pre0 ++ cs0 ++ post0)) (leT (leT a3 aA) an) rfl t bZ b1 bY b2; have r := ZV a6 p0s120
  have p := ZV a6 h69s120; refine Zc (bT _ _ ?_); rcases Zy (decide (bW < (0 : Int))) with ao | ao
  · have H := Zx H ao; refine ZE S rfl ao (sr (mw S rfl fun f S => oe (wp_ret (ZN ?_)))); obtain rfl := Zg H; refine Zak S (ZJ rfl (ZC S rfl)) ⟨⟨[.bool (false)], rfl, ZOa⟩, (S.boxAt (j := 0) rfl).2, _, (S.boxAt (j := 0) rfl).1, au, r⟩
  have H := Zw H ao; refine ZF S rfl ao (wp_skip (Zc (bS _ _ (sr (mw S rfl fun f S => oe (Zh fun _ cf => sr (mv S rfl fun f S => ov S rfl (ZI S au rfl rfl ZS) fun f S => mv S rfl fun f S => oe ?_))))))); obtain ⟨cg, ch, ci⟩ := Zb H; refine ZO (fun f w => ∃ (aC : (List Int)) (aN : List Value) (aD : Zd), aC = cg ∧ Zd.le a5 aD ∧ St 79 ⟨R, [a]⟩ o [] [Loc.box a E (pre0 ++ aN ++ post0)] aD f w ∧ Rep.rels (Za .u64) aD aN aC ∧ g = aC.length) (fun _ cj => ?_) ?_
  · have H := ch; refine wp_block ?_; obtain ⟨c6, ck, cl⟩ := Zb H; refine Zra ck (fun cm f w => ∃ (ad : (List Int)) (ap : Int) (d : Int) (B : List Value) (ae : Zd), (ad, ap, d) = cm ∧ Zd.le a5 ae ∧ St 79 ⟨R, [a]⟩ o [(0, .slice (some ⟨a, off0, none⟩) (g) C), (7, .slice (mkA (some ac)) (s) G), (14, .int .u64 (ap)), (58, .int .i64 ((u.length : Int))), (59, .int .i64 (d))] [Loc.box a E (pre0 ++ B ++ post0), Loc.own (some ac) 211 1 (s) G ((List.take (0 + ((((Zi 18446744073709551616 v)).length : Int)).toNat * 1) h ++ [Value.int IntKind.u64 (b)] ++ List.drop (0 + ((((Zi 18446744073709551616 v)).length : Int)).toNat * 1 + 1) h))] ae f w ∧ Rep.rels (Za .u64) ae B ad ∧ g = ad.length ∧ inR .u64 ap ∧ inR .i64 d) ⟨_, _, _, cs0, _, rfl, (leR _), (S.fr' rfl), r, au, (by decide), (by decide)⟩ ?_; rintro _ f w st ⟨ad, ap, d, B, ae, hq, aO, S, af, Q, c7, c8⟩ H c9 cn co; subst hq; have p := ZV aO p; refine sr (ov S rfl (Zj S rfl rfl Z4) fun f S => oe (Zh fun _ cp => ?_)); rcases Zy (decide (d < (u.length : Int))) with aq | aq
    · have H := Zx H aq; refine ZE S rfl aq (wp_skip (Zc (cp _ _ (Zh fun _ cq => wp_block (sr (mv S rfl fun f S => mw S rfl fun f S => oe ?_)))))); obtain ⟨a7, aE, H⟩ := Zb H; obtain ⟨a8, aF, H⟩ := Zb H; obtain ⟨U, aP, H⟩ := Zb H; obtain ⟨da, ar, H⟩ := Zb H; refine Zca (fl := #[true, true, true, true, true, true, true, true, true, true, true, false, true, true, true, true, false, false]) Zfa (by kernel_rfl) S ?_; intro ops O F w S; refine rfa O F 0 rfl rfl S (Zr S rfl) fun f S => rfa O F 1 rfl rfl S (Zr S rfl) fun f S => rfa O F 2 rfl rfl S (Zr S rfl) fun f S => rfa O F 3 rfl rfl S (Zr S rfl) fun f S => ?_; have a9 := ZIa af (Zk aE).2.1; obtain ⟨db, ba⟩ : ∃ c, (List.take (Za .u64).n (List.drop ((d).toNat * (Za .u64).n) B)) = c := ⟨_, rfl⟩; rw [ba] at a9; obtain ⟨rfl, cr⟩ := a9; refine rfa O F 4 rfl rfl S (ZU S rfl rfl ZS (Zk aE).1 (ltI Q (Zk aE).2.2.1)) fun f S => rfa O F 5 rfl rfl S (Z5 S rfl Zza (ZVg S (j := 0) rfl aG (Zwb af Q) ba (ltN Q (Zk aE).2.2.2) 0 [.int .u64 (a7)] rfl zl)) fun f S => rfa O F 6 rfl rfl S (Zr S rfl) fun f S => rfa O F 7 rfl rfl S (Zr S rfl) fun f S => ?_; have bb := ZIa p (Zk aF).2.1; obtain ⟨dc, bc⟩ : ∃ c, (List.take (Za .u64).n (List.drop ((d).toNat * (Za .u64).n) (List.take (0 + ((((Zi 18446744073709551616 v)).length : Int)).toNat * 1) h ++ [Value.int IntKind.u64 (b)] ++ List.drop (0 + ((((Zi 18446744073709551616 v)).length : Int)).toNat * 1 + 1) h))) = c := ⟨_, rfl⟩
      rw [bc] at bb; obtain ⟨rfl, ct⟩ := bb; refine rfa O F 8 rfl rfl S (ZU S rfl rfl ZS (Zk aF).1 (ltI aM (Zk aF).2.2.1)) fun f S => rfa O F 9 rfl rfl S (Z5 S rfl Zza (ZZc S (j := 1) rfl bc (ltN aM (Zk aF).2.2.2) 0 [.int .u64 (a8)] rfl zl)) fun f S => rfa O F 10 rfl rfl S (Zr S rfl) fun f S => go1 O F 11 (nva [5, 9, 10, 4, 8, 2, 3, 6, 7] [0, 1] O rfl rfl S (ZGe S [.int .u64 (a7), .int .u64 (a8), .int .u64 (ap)] (ZVl ZQk cr ct aP) rfl rfl) fun f S => ⟨(py S rfl rfl (Zr S rfl) (py S rfl rfl (Zr S rfl) Zp)), rfa O F 12 rfl rfl S (Zr S rfl) fun f S => rfa O F 13 rfl rfl S (ZM S rfl rfl) fun f S => rfa O F 14 rfl rfl S (ZM S rfl rfl) fun f S => ?_⟩); have bd := ZIa af (Zk ar).2.1; obtain ⟨dd, cu⟩ : ∃ c, (List.take (Za .u64).n (List.drop ((d).toNat * (Za .u64).n) B)) = c := ⟨_, rfl⟩; rw [cu] at bd; obtain ⟨rfl, de⟩ := bd; refine rfa O F 15 rfl rfl S (ZU S rfl rfl ZS (Zk ar).1 (ltI Q (Zk ar).2.2.1)) fun f S => go1 O F 16 ?_; obtain ⟨w, cv, S⟩ := Z1o S (k := (d).toNat) Zza (z := .int .u64 (U.1)) (c := [.int .u64 (U.1)]) (ZBb rfl) rfl (i := 0) rfl aG (Zwb af Q) (ltN Q (Zk ar).2.2.2) rfl (by first | rfl | simp [ZYa]); have cw : Rep.rels (Za .u64) ae (List.take (0 + (d).toNat * 1) B ++ [Value.int IntKind.u64 (U.1)] ++ List.drop (0 + (d).toNat * 1 + 1) B) (ad.set (d).toNat U.1) := ZMb af (Zk ar).2.2.2 (show Rep.rel (Za .u64) ae [.int .u64 (U.1)] _ from (Zq (ZHm aP))) rfl rfl
      have cx : g = (ad.set (d).toNat U.1).length := ZHb Q; refine nxs [0, 1, 2, 3, 4, 5, 6, 7, 8, 9, 10, 11, 12, 13, 15] [14] O rfl rfl (cv rfl rfl) (⟨(py S rfl rfl (ZM S rfl rfl) Zp), go1 O F 17 (nva [0, 1, 2, 3, 4, 5, 6, 7, 8, 9, 10, 11, 12, 13, 14, 15, 16] [] O rfl rfl S (Zda S rfl) fun f S => ⟨Zp, Z0 O F (Zma (Zc (cq _ _ ?_)))⟩)⟩); obtain ⟨df, be, H⟩ := Zb H; refine Zm (ov S rfl (Zj S rfl rfl (Zaa be)) fun f S => mv S rfl fun f S => Zl ?_); obtain rfl := Zg H; refine cn _ rfl _ _ ⟨_, _, _, (List.take (0 + (d).toNat * 1) B ++ [Value.int IntKind.u64 (U.1)] ++ List.drop (0 + (d).toNat * 1 + 1) B), _, rfl, aO, (S.fr' rfl), cw, cx, (Zzk aP), (Z9 be).2⟩
    have H := Zw H aq; refine ZF S rfl aq (wp_exit (ZP ?_)); obtain rfl := Zg H; have hq := co _ rfl; subst hq; have H := cl; refine ZP (Zja ?_); obtain rfl := Zg H; have S := S.reorder (ℓ' := [Loc.box a E (pre0 ++ B ++ post0)]) [0] rfl (by decide); refine Zc (cj _ _ ⟨_, B, _, rfl, (leT (leR _) aO), (S.fr' rfl), af, Q⟩)
  rintro f w ⟨aC, aN, aD, hq, dg, S, cy, cz⟩; subst hq; have H := ci; refine Zc (cf _ _ (sr (mw S rfl fun f S => oe (wp_ret ?_)))); obtain rfl := Zg H; refine Zak S (ZJ rfl (ZC S rfl)) ⟨⟨[.bool (true)], rfl, ZOa⟩, (S.boxAt (j := 0) rfl).2, _, (S.boxAt (j := 0) rfl).1, cz, cy⟩
theorem take_c {d : World} {a : Zd} (hv : VIn a d) {b off0 c e : Nat} {f : TypeId} {pre0 cs0 post0 : List Value} {u : (List Int)} (l : d.heap[b]? = some (.cells (pre0 ++ cs0 ++ post0).toArray f (0, 0))) (m : off0 = pre0.length) (n : a b = none) (o : c = u.length) (p : c ≤ e ∧ e ≤ maxLen) (g : Rep.rels (Za .u64) a cs0 u) {h : List Value} {v : Nat} (r : Rep.rel ZB a h v) {i : List Value} {q : Int} (j : Rep.rel (Za .u64) a i q) {z : Bool × (List Int)} (hm : Zff u v q = some z) :
    RetL Tryz.prog 197 #[Value.slice (some ⟨b, off0, none⟩) c e, ZB.val h, (Za .u64).val i] d a [b] (fun y v' w' => (∃ k, y = Z3.val k ∧ Z3.rel v' k z.1) ∧ v' b = none ∧ ∃ cs, w'.heap[b]? = some (.cells (pre0 ++ cs ++ post0).toArray f (0, 0)) ∧ c = z.2.length ∧ Rep.rels (Za .u64) v' cs z.2) :=
  take_w hv l m n o p g r j (Zyn (Zck g) j.2 hm)
theorem digit_w {x : World} {m : Zd} (hv : VIn m x) {a off0 e h : Nat} {A : TypeId} {pre0 cs0 post0 : List Value} {u : (List Int)} (a0 : x.heap[a]? = some (.cells (pre0 ++ cs0 ++ post0).toArray A (0, 0))) (G : off0 = pre0.length) (a1 : m a = none) (k : e = u.length) (a2 : e ≤ h ∧ h ≤ maxLen) (d : Rep.rels (Za .u64) m cs0 u) {c1 : List Value} {v : Nat} (g : Rep.rel ZB m c1 v) {z : Int × (List Int)} (H : ZNg u v = some z) : RetL Tryz.prog 178 #[.slice (some ⟨a, off0, none⟩) e h, ZB.val c1] x m [a] (fun y v' w' => (∃ r0, y = (Za .u64).val r0 ∧ (Za .u64).rel v' r0 z.1) ∧ v' a = none ∧ ∃ cs, w'.heap[a]? = some (.cells (pre0 ++ cs ++ post0).toArray A (0, 0)) ∧ e = z.2.length ∧ Rep.rels (Za .u64) v' cs z.2) := by
  obtain ⟨q1, o, p, rfl⟩ := Z1 g; refine ZZk (K := 90) (args := [.slice (some ⟨a, off0, none⟩) (e) h, .slice q1 o p]) hv a0 a1 Tryz.func178 rfl rfl zl fun f S => ?_; unfold ZNg at H; refine sr (mw S rfl fun f S => oe (sr (mv S rfl fun f S => ov S rfl (ZI S (Zv g) rfl rfl ZS) fun f S => mw S rfl fun f S => oe (sr (mw S rfl fun f S => oe (Zh fun _ a3 => Zh fun _ a4 => ?_)))))); obtain ⟨aE, V, H⟩ := Zb H; obtain ⟨cf, a5, H⟩ := Zb H; obtain ⟨a6, aj, H⟩ := Zb H; refine Zca (fl := #[true, true, true, true, true, true, true, true, true, true]) Zfa (by kernel_rfl) S ?_; intro ops O F w S; refine rfa O F 0 rfl rfl S (Zr S rfl) fun f S => rfa O F 1 rfl rfl S (Zr S rfl) fun f S => ?_; have aF := ZIa d (Zk V).2.1; obtain ⟨cg, aG⟩ : ∃ c, (List.take (Za .u64).n (List.drop (((((Zi 18446744073709551616 v)).length : Int)).toNat * (Za .u64).n) cs0)) = c := ⟨_, rfl⟩; rw [aG] at aF; obtain ⟨rfl, ch⟩ := aF; refine rfa O F 2 rfl rfl S (ZU S rfl rfl ZS (Zk V).1 (ltI k (Zk V).2.2.1)) fun f S => rfa O F 3 rfl rfl S (Z5 S rfl Zza (ZVg S (j := 0) rfl G (Zwb d k) aG (ltN k (Zk V).2.2.2) 0 [.int .u64 (aE)] rfl zl)) fun f S => rfa O F 4 rfl rfl S (Zr S rfl) fun f S => rfa O F 5 rfl rfl S (Zr S rfl) fun f S => rfa O F 6 rfl rfl S (Zj S rfl rfl (ZGa a5)) fun f S => ?_; obtain ⟨_, r, s, ci, rfl, a7, a8⟩ := Zla g (Zk aj).2.1
  obtain ⟨rfl, cj⟩ := a8; refine rfa O F 7 rfl rfl S (ZU S rfl rfl ZS (Zk aj).1 (ltI (Zv g) (Zk aj).2.2.1)) fun f S => rfa O F 8 rfl rfl S (Z5 S rfl Zza (S.view a7)) fun f S => rfa O F 9 rfl rfl S (Zj S rfl rfl Z4) fun f S => Z0 O F (Zc (a4 _ _ ?_)); obtain ⟨a9, ba, bb⟩ := Zb H; refine ZO (fun f w => ∃ (W : Int) (I : Zd), W = a9 ∧ Zd.le m I ∧ St 90 ⟨x, [a]⟩ m [(0, .slice (some ⟨a, off0, none⟩) (e) h), (1, .slice (some ⟨r, s, none⟩) o p), (6, .int .u64 (W))] [Loc.box a A (pre0 ++ cs0 ++ post0)] I f w ∧ inR .u64 W) (fun _ aH => ?_) ?_
  · have H := ba; rcases Zy (decide (aE < a6)) with J | J
    · have H := Zx H J; refine ZE S rfl J (sr (mw S rfl fun f S => oe (Zh fun _ bc => ?_))); obtain ⟨X, Y, H⟩ := Zb H; obtain ⟨bd, be, H⟩ := Zb H; obtain ⟨Z, aa, H⟩ := Zb H; obtain ⟨ck, bf, H⟩ := Zb H; obtain ⟨ak, al, H⟩ := Zb H; obtain ⟨aI, bg, H⟩ := Zb H; refine Zca (fl := #[true, true, true, true, true, true, true, true, true, true, true, true, true, true, false, true, true, true, false, false]) Zfa (by kernel_rfl) S ?_; intro ops O F w S; refine rfa O F 0 rfl rfl S (Zr S rfl) fun f S => rfa O F 1 rfl rfl S (Zr S rfl) fun f S => ?_; have aJ := ZIa d (Zk Y).2.1; obtain ⟨cl, aK⟩ : ∃ c, (List.take (Za .u64).n (List.drop (((((Zi 18446744073709551616 v)).length : Int)).toNat * (Za .u64).n) cs0)) = c := ⟨_, rfl⟩; rw [aK] at aJ; obtain ⟨rfl, bh⟩ := aJ; refine rfa O F 2 rfl rfl S (ZU S rfl rfl ZS (Zk Y).1 (ltI k (Zk Y).2.2.1)) fun f S => rfa O F 3 rfl rfl S (Z5 S rfl Zza (ZVg S (j := 0) rfl G (Zwb d k) aK (ltN k (Zk Y).2.2.2) 0 [.int .u64 (X)] rfl zl)) fun f S => rfa O F 4 rfl rfl S (Zr S rfl) fun f S => rfa O F 5 rfl rfl S (Zr S rfl) fun f S => rfa O F 6 rfl rfl S (Zj S rfl rfl (ZGa be)) fun f S => ?_; have aL := ZIa d (Zk aa).2.1; obtain ⟨cm, aM⟩ : ∃ c, (List.take (Za .u64).n (List.drop ((bd).toNat * (Za .u64).n) cs0)) = c := ⟨_, rfl⟩
      rw [aM] at aL; obtain ⟨rfl, bi⟩ := aL; refine rfa O F 7 rfl rfl S (ZU S rfl rfl ZS (Zk aa).1 (ltI k (Zk aa).2.2.1)) fun f S => rfa O F 8 rfl rfl S (Z5 S rfl Zza (ZVg S (j := 0) rfl G (Zwb d k) aM (ltN k (Zk aa).2.2.2) 0 [.int .u64 (Z)] rfl zl)) fun f S => rfa O F 9 rfl rfl S (Zr S rfl) fun f S => rfa O F 10 rfl rfl S (Zr S rfl) fun f S => rfa O F 11 rfl rfl S (Zj S rfl rfl (ZGa bf)) fun f S => ?_; obtain ⟨cn, am, bj⟩ := Z2c g (Zk al).2.1; obtain ⟨rfl, bk⟩ := bj; refine rfa O F 12 rfl rfl S (ZU S rfl rfl ZS (Zk al).1 (ltI (Zv g) (Zk al).2.2.1)) fun f S => rfa O F 13 rfl rfl S (Z5 S rfl Zza (S.view am)) fun f S => go1 O F 14 (nxc [3, 8, 13, 2, 7, 12, 0, 1, 4, 6, 9, 11, 5, 10] [] O rfl S rfl (Zn S [.int .u64 (X), .int .u64 (Z), .int .u64 (ak)] Zjm rfl rfl) (Zql S.vin (show Rep.rel (Za .u64) _ [.int .u64 (X)] X from (Zq bh)) (show Rep.rel (Za .u64) _ [.int .u64 (Z)] Z from (Zq bi)) (show Rep.rel (Za .u64) _ [.int .u64 (ak)] ak from (Zq bk)) bg) ?_); rintro _ aN f w ab ⟨co, cp, rfl, bm, bn⟩ S; have d := ZV ab d; have am := Atm ab am; obtain ⟨rfl, bo⟩ := bm; obtain ⟨rfl, bp⟩ := bn; refine ⟨Zp, rfa O F 15 rfl rfl S (Zr S rfl) fun f S => rfa O F 16 rfl rfl S (ZM S rfl rfl) fun f S => rfa O F 17 rfl rfl S (ZM S rfl rfl) fun f S => go1 O F 18 (nva [0, 1, 2, 3, 4, 5, 6, 7, 8, 9, 10, 11, 12, 13, 14, 15, 16] [17] O rfl rfl S (Zda S rfl) fun f S => ⟨(py S rfl rfl (ZM S rfl rfl) Zp), go1 O F 19 (nva [0, 1, 2, 3, 4, 5, 6, 7, 8, 9, 10, 11, 12, 13, 14, 15, 16, 17, 18] [] O rfl rfl S (Zda S rfl) fun f S => ⟨Zp, Z0 O F ?_⟩)⟩)⟩
      have S := S.fr' (σ' := [(0, .slice (some ⟨a, off0, none⟩) (e) h), (1, .slice (some ⟨r, s, none⟩) o p), (5, .int .i64 ((((Zi 18446744073709551616 v)).length : Int))), (6, .int .u64 (aI.1)), (7, .int .u64 (aI.2))]) rfl; refine Zc (bc _ _ ?_); obtain ⟨bq, br, bs⟩ := Zb H; refine ZO (fun f w => ∃ (ac : Int) (an : Zd), ac = bq ∧ Zd.le aN an ∧ St 90 ⟨x, [a]⟩ m [(0, .slice (some ⟨a, off0, none⟩) (e) h), (1, .slice (some ⟨r, s, none⟩) o p), (6, .int .u64 (ac))] [Loc.box a A (pre0 ++ cs0 ++ post0)] an f w ∧ inR .u64 ac) (fun _ aO => ?_) ?_
      · have H := br; refine wp_block ?_; obtain ⟨cq, bt, aP⟩ := Zb H; refine Zra bt (fun bu f w => ∃ (q : Int) (l : Int) (ao : Zd), (q, l) = bu ∧ Zd.le aN ao ∧ St 90 ⟨x, [a]⟩ m [(0, .slice (some ⟨a, off0, none⟩) (e) h), (1, .slice (some ⟨r, s, none⟩) o p), (5, .int .i64 ((((Zi 18446744073709551616 v)).length : Int))), (6, .int .u64 (q)), (7, .int .u64 (l))] [Loc.box a A (pre0 ++ cs0 ++ post0)] ao f w ∧ inR .u64 q ∧ inR .u64 l) ⟨_, _, _, rfl, (leR _), (S.fr' rfl), bo, bp⟩ ?_; rintro _ f w st ⟨q, l, ao, hq, L, S, aQ, cr⟩ H ct bv aR; subst hq; have d := ZV L d; refine wp_block (Zh fun _ bw => ?_); obtain ⟨cu, bx, H⟩ := Zb H; obtain ⟨ap, aq, H⟩ := Zb H; obtain ⟨B, bz, H⟩ := Zb H; refine Zm (mv S rfl fun f S => mv S rfl fun f S => mv S rfl fun f S => ov S rfl (Zj S rfl rfl (ZGa bx)) fun f S => ?_); have g := Zo (leT ab L) g; obtain ⟨cv, ar, bA⟩ := Z2c g (Zk aq).2.1; obtain ⟨rfl, bB⟩ := bA; refine ov S rfl (ZU S rfl rfl ZS (Zk aq).1 (ltI (Zv g) (Zk aq).2.2.1)) fun f S => ov S rfl (Z5 S rfl Zza (S.view ar)) fun f S => opc S rfl (Zn S [.int .u64 (q), .int .u64 (ap)] Z3j rfl rfl) (Z4j S.vin (show Rep.rel (Za .u64) _ [.int .u64 (q)] q from (Zq aQ)) (show Rep.rel (Za .u64) _ [.int .u64 (ap)] ap from (Zq bB)) bz) ?_
        rintro _ bC f w D ⟨cw, cx, rfl, bD, bE⟩ S; have d := ZV D d; have ar := Atm D ar; obtain ⟨rfl, cy⟩ := bD; obtain ⟨rfl, cz⟩ := bE; refine mv S rfl fun f S => ov S rfl (ZM S rfl rfl) fun f S => ov S rfl (ZM S rfl rfl) fun f S => mw S rfl fun f S => mw S rfl fun f S => Zl (Zc (bw _ _ (Zh fun _ bF => Zh fun _ bG => ?_))); obtain ⟨bH, bI, bJ⟩ := Zb H; refine ZO (fun f w => ∃ (ad : Bool) (au : Zd), ad = bH ∧ Zd.le bC au ∧ St 90 ⟨x, [a]⟩ m [(0, .slice (some ⟨a, off0, none⟩) (e) h), (1, .slice (some ⟨r, s, none⟩) o p), (5, .int .i64 ((((Zi 18446744073709551616 v)).length : Int))), (6, .int .u64 (q)), (7, .int .u64 (l)), (67, .bool (ad))] [Loc.box a A (pre0 ++ cs0 ++ post0)] au f w) (fun _ av => ?_) ?_
        · have H := bI; rcases Zy (decide (B.1 < l)) with E | E
          · have H := Zx H E; refine Zm (mv S rfl fun f S => mv S rfl fun f S => ov S rfl (Zj S rfl rfl Z4) fun f S => ?_); have S := S.bool (t := 53) rfl E; refine mv S rfl fun f S => opn S rfl rfl rfl rfl fun f S => opn S rfl rfl rfl rfl fun f S => opn S rfl rfl rfl rfl fun f S => opn S rfl rfl rfl rfl fun f S => Z7c S (Zob S rfl rfl rfl zl) rfl zl fun f S => Z7c S (Zob S rfl rfl rfl zl) rfl zl fun f S => Z7c S (Zob S rfl rfl rfl zl) rfl zl fun f S => Z7c S (Zob S rfl rfl rfl zl) rfl zl fun f S => Z7c S (Zob S rfl rfl rfl zl) rfl zl fun f S => Z7c S (Zob S rfl rfl rfl zl) rfl zl fun f S => Z7c S (Zob S rfl rfl rfl zl) rfl zl fun f S => opn S rfl rfl rfl rfl fun f S => ov S rfl (ZK S (b := true) rfl rfl) fun f S => ?_; refine Zl ?_; have S := S.fr' (σ' := [(0, .slice (some ⟨a, off0, none⟩) (e) h), (1, .slice (some ⟨r, s, none⟩) o p), (5, .int .i64 ((((Zi 18446744073709551616 v)).length : Int))), (6, .int .u64 (q)), (7, .int .u64 (l)), (55, undef), (56, undef), (57, undef), (58, undef), (59, undef), (60, undef), (61, undef), (62, undef), (63, undef), (64, undef), (65, undef), (66, undef), (67, .bool (true))]) rfl; obtain rfl := Zg H; refine Zc (av _ _ ⟨_, _, rfl, (leR _), (S.fr' rfl)⟩)
          have H := Zw H E; rcases Zy (B.1 == l) with M | M
          · have H := Zx H M; obtain ⟨aw, bK, H⟩ := Zb H; obtain ⟨N, ae, H⟩ := Zb H; refine Zm (mv S rfl fun f S => mv S rfl fun f S => ov S rfl (Zj S rfl rfl Z4) fun f S => ?_); have S := S.bool (t := 53) rfl E; refine mv S rfl fun f S => opy S rfl rfl rfl rfl (Zr S rfl) fun f S => opy S rfl rfl rfl rfl (Zr S rfl) fun f S => opy S rfl rfl rfl rfl (Zj S rfl rfl Zka) fun f S => ?_; have S := S.bool (t := 57) rfl M; refine opy S rfl rfl rfl rfl (Zr S rfl) fun f S => opy S rfl rfl rfl rfl (Zr S rfl) fun f S => opy S rfl rfl rfl rfl (Zr S rfl) fun f S => opy S rfl rfl rfl rfl (Zr S rfl) fun f S => opy S rfl rfl rfl rfl (Zj S rfl rfl (ZGa bK)) fun f S => ?_; have aS := ZIa d (Zk ae).2.1; obtain ⟨cA, aT⟩ : ∃ c, (List.take (Za .u64).n (List.drop ((aw).toNat * (Za .u64).n) cs0)) = c := ⟨_, rfl⟩; rw [aT] at aS; obtain ⟨rfl, cB⟩ := aS; refine opy S rfl rfl rfl rfl (ZU S rfl rfl ZS (Zk ae).1 (ltI k (Zk ae).2.2.1)) fun f S => opy S rfl rfl rfl rfl (Z5 S rfl Zza (ZVg S (j := 0) rfl G (Zwb d k) aT (ltN k (Zk ae).2.2.2) 0 [.int .u64 (N)] rfl zl)) fun f S => opy S rfl rfl rfl rfl (Zj S rfl rfl ZJc) fun f S => opy S rfl rfl rfl rfl (ZK S (b := true) rfl rfl) fun f S => ov S rfl (ZK S (b := false) rfl rfl) fun f S => Zl ?_; have S := S.fr' (σ' := [(0, .slice (some ⟨a, off0, none⟩) (e) h), (1, .slice (some ⟨r, s, none⟩) o p), (5, .int .i64 ((((Zi 18446744073709551616 v)).length : Int))), (6, .int .u64 (q)), (7, .int .u64 (l)), (55, .int .u64 (B.1)), (56, .int .u64 (l)), (57, .bool (true)), (58, .bool (true)), (59, .int .u64 (B.2)), (60, .slice (some ⟨a, off0, none⟩) (e) h), (61, .int .i64 ((((Zi 18446744073709551616 v)).length : Int))), (62, .int .i64 (aw)), (63, .pointer (some ⟨a, off0 + (aw).toNat * 1, none⟩)), (64, .int .u64 (N)), (65, .bool (decide (B.2 ≤ N))), (66, .bool (decide (B.2 ≤ N))), (67, .bool (decide (B.2 ≤ N)))]) rfl
            obtain rfl := Zg H; refine Zc (av _ _ ⟨_, _, rfl, (leR _), (S.fr' rfl)⟩)
          have H := Zw H M; refine Zm (mv S rfl fun f S => mv S rfl fun f S => ov S rfl (Zj S rfl rfl Z4) fun f S => ?_); have S := S.bool (t := 53) rfl E; refine mv S rfl fun f S => opy S rfl rfl rfl rfl (Zr S rfl) fun f S => opy S rfl rfl rfl rfl (Zr S rfl) fun f S => opy S rfl rfl rfl rfl (Zj S rfl rfl Zka) fun f S => ?_; have S := S.bool (t := 57) rfl M; refine opy S rfl rfl rfl rfl (Zr S rfl) fun f S => opn S rfl rfl rfl rfl fun f S => opn S rfl rfl rfl rfl fun f S => opn S rfl rfl rfl rfl fun f S => opn S rfl rfl rfl rfl fun f S => opn S rfl rfl rfl rfl fun f S => opn S rfl rfl rfl rfl fun f S => opn S rfl rfl rfl rfl fun f S => opy S rfl rfl rfl rfl (ZK S (b := false) rfl rfl) fun f S => ov S rfl (ZK S (b := false) rfl rfl) fun f S => Zl ?_; have S := S.fr' (σ' := [(0, .slice (some ⟨a, off0, none⟩) (e) h), (1, .slice (some ⟨r, s, none⟩) o p), (5, .int .i64 ((((Zi 18446744073709551616 v)).length : Int))), (6, .int .u64 (q)), (7, .int .u64 (l)), (55, .int .u64 (B.1)), (56, .int .u64 (l)), (57, .bool (false)), (58, .bool (false)), (59, undef), (60, undef), (61, undef), (62, undef), (63, undef), (64, undef), (65, undef), (66, .bool (false)), (67, .bool (false))]) rfl; obtain rfl := Zg H; refine Zc (av _ _ ⟨_, _, rfl, (leR _), (S.fr' rfl)⟩)
        rintro f w ⟨ad, au, hq, P, S⟩; subst hq; have H := bJ; have d := ZV P d; refine Zc (bG _ _ ?_); rcases Zy (ad) with Q | Q
        · have H := Zx H Q; refine ZE S rfl Q (wp_exit (ZP (ZUh rfl ?_))); obtain rfl := Zg H; have hq := aR _ rfl; subst hq; have H := aP; refine ZP (Zja ?_); obtain rfl := Zg H; refine Zc (aO _ _ ⟨_, _, rfl, (leT (leT (leT (leR _) L) D) P), (S.fr' rfl), aQ⟩)
        have H := Zw H Q; refine ZF S rfl Q (wp_skip (Zc (bF _ _ (sr (mv S rfl fun f S => ov S rfl (Zj S rfl rfl ZCd) fun f S => mw S rfl fun f S => oe (sr (mw S rfl fun f S => oe (Zh fun _ bL => ?_)))))))); obtain ⟨cC, bM, H⟩ := Zb H; obtain ⟨bN, ax, H⟩ := Zb H; obtain ⟨bO, aU, H⟩ := Zb H; refine Zm (mv S rfl fun f S => mv S rfl fun f S => mv S rfl fun f S => ov S rfl (Zj S rfl rfl (ZGa bM)) fun f S => ?_); have g := Zo (leT D P) g; obtain ⟨cD, bP, bQ⟩ := Z2c g (Zk ax).2.1; obtain ⟨rfl, cE⟩ := bQ; refine ov S rfl (ZU S rfl rfl ZS (Zk ax).1 (ltI (Zv g) (Zk ax).2.2.1)) fun f S => ov S rfl (Z5 S rfl Zza (S.view bP)) fun f S => ov S rfl (ZGe S [.int .u64 (l), .int .u64 (bN), .int .u64 ((0 : Int))] (Zvg Zdh aU) rfl rfl) fun f S => mv S rfl fun f S => ov S rfl (ZM S rfl rfl) fun f S => ov S rfl (ZM S rfl rfl) fun f S => mw S rfl fun f S => mw S rfl fun f S => Zl (Zc (bL _ _ (sr (mv S rfl fun f S => ov S rfl (Zj S rfl rfl ZAa) fun f S => oe ?_)))); rcases Zy (decide ((0 : Int) < bO.2)) with R | R
        · have H := Zx H R; refine ZE S rfl R (wp_exit (ZUh rfl ?_)); obtain rfl := Zg H; have hq := aR _ rfl; subst hq; have H := aP; refine ZP (Zja ?_); obtain rfl := Zg H; refine Zc (aO _ _ ⟨_, _, rfl, (leT (leT (leT (leR _) L) D) P), (S.fr' rfl), (Zxa _ _)⟩)
        have H := Zw H R; refine ZF S rfl R (wp_skip (Zma ?_)); obtain rfl := Zg H; refine bv _ rfl _ _ ⟨_, _, _, rfl, (leT (leT L D) P), (S.fr' rfl), (Zxa _ _), (Zoj aU)⟩
      rintro f w ⟨ac, an, hq, aV, S, bR⟩; subst hq; have H := bs; have d := ZV aV d; obtain rfl := Zg H; refine Zc (aH _ _ ⟨_, _, rfl, (leT (leT (leR _) ab) aV), (S.fr' rfl), bR⟩)
    have H := Zw H J; refine ZF S rfl J (wp_skip ?_); obtain rfl := Zg H; refine Zc (aH _ _ ⟨_, _, rfl, (leR _), (S.fr' rfl), (by decide)⟩)
  rintro f w ⟨W, I, hq, aW, S, bS⟩; subst hq; have H := bb; have d := ZV aW d; refine Zc (a3 _ _ (Zh fun _ bT => ?_)); obtain ⟨bU, bV, bW⟩ := Zb H; refine ZO (fun f w => ∃ (af : (List Int)) (T : Int) (ay : List Value) (ag : Zd), (af, T) = bU ∧ Zd.le I ag ∧ St 90 ⟨x, [a]⟩ m [(6, .int .u64 (T))] [Loc.box a A (pre0 ++ ay ++ post0)] ag f w ∧ Rep.rels (Za .u64) ag ay af ∧ e = af.length ∧ inR .u64 T) (fun _ bX => ?_) ?_
  · have H := bV; refine wp_block ?_; obtain ⟨cF, bY, bZ⟩ := Zb H; refine Zra bY (fun b1 f w => ∃ (ah : (List Int)) (C : Int) (az : List Value) (ai : Zd), (ah, C) = b1 ∧ Zd.le I ai ∧ St 90 ⟨x, [a]⟩ m [(0, .slice (some ⟨a, off0, none⟩) (e) h), (1, .slice (some ⟨r, s, none⟩) o p), (6, .int .u64 (C))] [Loc.box a A (pre0 ++ az ++ post0)] ai f w ∧ Rep.rels (Za .u64) ai az ah ∧ e = ah.length ∧ inR .u64 C) ⟨_, _, cs0, _, rfl, (leR _), (S.fr' rfl), d, k, bS⟩ ?_; rintro _ f w st ⟨ah, C, az, ai, hq, aA, S, aB, b2, aX⟩ H cG b3 b4; subst hq; refine Zh fun _ b5 => Zh fun _ b6 => ?_; obtain ⟨b7, b8, H⟩ := Zb H; refine Zm (mv S rfl fun f S => mv S rfl fun f S => mv S rfl fun f S => ?_); have g := Zo (leT aW aA) g; refine ZTl S wn rfl zl (Zn S [.slice (some ⟨a, off0, none⟩) (e) h, .slice (some ⟨r, s, none⟩) o p, .int .u64 (C)] k_en197 rfl rfl) (i := 0) rfl rfl (take_c S.vin (S.boxAt (j := 0) rfl).1 G (S.boxAt (j := 0) rfl).2 b2 a2 aB g (show Rep.rel (Za .u64) _ [.int .u64 (C)] C from (Zq aX)) b8) ?_; rintro _ cH f w aC ⟨⟨cI, rfl, b9⟩, ca, aD, cb, aY, aZ⟩ hSf; have aB := ZV aC aB; have S := hSf (Loc.box a A (pre0 ++ aD ++ post0)) rfl cb ca; obtain rfl := b9; refine ov S rfl (ZAc S rfl) fun f S => Zl (Zc (b6 _ _ ?_)); rcases Zy (!(b7.1)) with U | U
    · have H := Zx H U; refine ZE S rfl U (wp_skip (Zc (b5 _ _ (wp_block (Zm (mv S rfl fun f S => ov S rfl (Zj S rfl rfl ZCd) fun f S => mw S rfl fun f S => Zl (Zma ?_))))))); obtain rfl := Zg H; refine b3 _ rfl _ _ ⟨_, _, aD, _, rfl, (leT aA aC), (S.fr' rfl), aZ, aY, (Zxa _ _)⟩
    have H := Zw H U; refine ZF S rfl U (wp_exit (ZP ?_)); obtain rfl := Zg H; have hq := b4 _ rfl; subst hq; have H := bZ; refine ZP (Zja ?_); obtain rfl := Zg H; refine Zc (bX _ _ ⟨_, _, aD, _, rfl, (leT (leT (leR _) aA) aC), (S.fr' rfl), aZ, aY, aX⟩)
  rintro f w ⟨af, T, ay, ag, hq, cJ, S, cc, cd, ce⟩; subst hq; have H := bW; refine Zc (bT _ _ (sr (mv S rfl fun f S => mw S rfl fun f S => oe (wp_ret ?_)))); obtain rfl := Zg H; refine Zak S (ZJ rfl (ZC S rfl)) ⟨⟨[.int .u64 (T)], rfl, (Zq ce)⟩, (S.boxAt (j := 0) rfl).2, _, (S.boxAt (j := 0) rfl).1, cd, cc⟩
theorem digit_c {d : World} {b : Zd} (hv : VIn b d) {a off0 c e : Nat} {f : TypeId} {pre0 cs0 post0 : List Value} {u : (List Int)} (j : d.heap[a]? = some (.cells (pre0 ++ cs0 ++ post0).toArray f (0, 0))) (k : off0 = pre0.length) (l : b a = none) (m : c = u.length) (n : c ≤ e ∧ e ≤ maxLen) (g : Rep.rels (Za .u64) b cs0 u) {h : List Value} {v : Nat} (o : Rep.rel ZB b h v) {z : Int × (List Int)} (hm : Z7e u v = some z) :
    RetL Tryz.prog 178 #[Value.slice (some ⟨a, off0, none⟩) c e, ZB.val h] d b [a] (fun y v' w' => (∃ i, y = (Za .u64).val i ∧ (Za .u64).rel v' i z.1) ∧ v' a = none ∧ ∃ cs, w'.heap[a]? = some (.cells (pre0 ++ cs ++ post0).toArray f (0, 0)) ∧ c = z.2.length ∧ Rep.rels (Za .u64) v' cs z.2) :=
  digit_w hv j k l m n g o (Zip (Zck g) hm)
theorem left_w {I : World} {o : Zd} (hv : VIn o I) {c0 : List Value} {a : Nat} (g : Rep.rel ZB o c0 a) {c1 : List Value} {n : Int} (p1 : Rep.rel (Za .i64) o c1 n) {z : Nat} (H : Zzg a n = some z) : Ret Tryz.prog 177 #[ZB.val c0, (Za .i64).val c1] I o (fun y v' => ∃ r0, y = ZB.val r0 ∧ ZB.rel v' r0 z) := by
  obtain ⟨W, J, L, rfl⟩ := Z1 g; obtain ⟨rfl, r4⟩ := p1; refine ZT (K := 58) (args := [.slice W J L, .int .i64 (n)]) hv Tryz.func177 rfl rfl zl fun f S => ?_; unfold Zzg at H; refine sr (mw S rfl fun f S => oe (Zh fun _ av => Zh fun _ aw => ?_)); obtain ⟨ax, ay, az⟩ := Zb H; refine ZO (fun f w => ∃ (X : Bool) (v : Zd), X = ax ∧ Zd.le o v ∧ St 58 I o [(0, .slice W J L), (1, .int .i64 (n)), (14, .bool (X))] [] v f w) (fun _ ag => ?_) ?_
  · have H := ay; rcases Zy (((((Zi 18446744073709551616 a)).length : Int)) == ((0 : Int))) with M | M
    · have H := Zx H M; refine Zm (mv S rfl fun f S => ov S rfl (ZI S (Zv g) rfl rfl ZS) fun f S => ov S rfl (Zj S rfl rfl Zka) fun f S => ?_); have S := S.bool (t := 10) rfl M; refine mv S rfl fun f S => opn S rfl rfl rfl rfl fun f S => opn S rfl rfl rfl rfl fun f S => ov S rfl (ZK S (b := true) rfl rfl) fun f S => Zl ?_; obtain rfl := Zg H; refine Zc (ag _ _ ⟨_, _, rfl, (leR _), (S.fr' rfl)⟩)
    have H := Zw H M; refine Zm (mv S rfl fun f S => ov S rfl (ZI S (Zv g) rfl rfl ZS) fun f S => ov S rfl (Zj S rfl rfl Zka) fun f S => ?_); have S := S.bool (t := 10) rfl M; refine mv S rfl fun f S => opy S rfl rfl rfl rfl (Zr S rfl) fun f S => opy S rfl rfl rfl rfl (Zj S rfl rfl Zka) fun f S => ov S rfl (ZK S (b := false) rfl rfl) fun f S => Zl ?_; obtain rfl := Zg H; refine Zc (ag _ _ ⟨_, _, rfl, (leR _), (S.fr' rfl)⟩)
  rintro f w ⟨X, v, hq, ah, S⟩; subst hq; have H := az; refine Zc (aw _ _ ?_); rcases Zy (X) with N | N
  · have H := Zx H N; refine ZE S rfl N (sr (mv S rfl fun f S => mw S rfl fun f S => oe (wp_ret (ZN ?_)))); obtain rfl := Zg H; have g := Zo ah g; refine ZA S (ZJ rfl (ZC S rfl)) ⟨[.slice W J L], rfl, g⟩
  have H := Zw H N; refine ZF S rfl N (wp_skip (Zc (av _ _ (Zh fun _ aA => ?_)))); obtain ⟨bo, aB, H⟩ := Zb H; obtain ⟨bp, aC, H⟩ := Zb H; obtain ⟨B, aD, H⟩ := Zb H; obtain ⟨bq, Y, H⟩ := Zb H; refine Zm (mv S rfl fun f S => ?_); have g := Zo ah g; refine ov S rfl (ZI S (Zv g) rfl rfl ZS) fun f S => mv S rfl fun f S => ov S rfl (Zj S rfl rfl (Z2b aB)) fun f S => ov S rfl (Zj S rfl rfl (Zaa aC)) fun f S => ov S rfl (Zj S rfl rfl (Zaa aD)) fun f S => ?_; obtain ⟨ai, aj⟩ : ∃ c : List Value, c = (List.replicate (B).toNat [.int .u64 ((0 : Int))]).flatten := ⟨_, rfl⟩; obtain ⟨aE, w, aF, S⟩ := Zjc ZGc S (l := B) (c := B) (Zba Y).1 (Zba Y).2.1 (Zba Y).2.2.1 (Zba Y).2.2.2 aj; have aG : Rep.rels (Za .u64) v ai (List.replicate (B).toNat ((0 : Int))) := by rw [aj]; exact ZWb (show Rep.rel (Za .u64) _ [.int .u64 ((0 : Int))] _ from (Zq (by decide))) _
  refine Zoa wn rfl zl (aF rfl rfl) S fun f S => mw S rfl fun f S => Zl (Zc (aA _ _ (Zh fun _ aH => sr (mv S rfl fun f S => ov S rfl (ZI S (Zv g) rfl rfl ZS) fun f S => mv S rfl fun f S => oe ?_)))); obtain ⟨aI, aJ, aK⟩ := Zb H; refine ZO (fun f w => ∃ (C : (List Int)) (P : Option Nat) (D : Nat) (Q : Nat) (ac : List Value) (Z : Zd), C = aI ∧ Zd.le v Z ∧ St 58 I o [(5, .slice (mkA P) (D) Q)] [Loc.own P 211 1 (D) Q ac] Z f w ∧ Rep.rels (Za .u64) Z ac C ∧ D = C.length) (fun _ aL => ?_) ?_
  · have H := aJ; refine wp_block ?_; obtain ⟨br, aM, aN⟩ := Zb H; refine Zra aM (fun aO f w => ∃ (p : (List Int)) (E : Int) (aa : Option Nat) (m : Nat) (G : Nat) (e : List Value) (q : Zd), (p, E) = aO ∧ Zd.le v q ∧ St 58 I o [(1, .int .i64 (n)), (5, .slice (mkA aa) (m) G), (23, .slice W J L), (24, .int .i64 ((((Zi 18446744073709551616 a)).length : Int))), (25, .int .i64 (E))] [Loc.own aa 211 1 (m) G e] q f w ∧ Rep.rels (Za .u64) q e p ∧ m = p.length ∧ inR .i64 E) ⟨_, _, some aE, (B).toNat, (B).toNat, ai, _, rfl, (leR _), (S.fr' rfl), aG, (ZFb (x := (0 : Int))), (by decide)⟩ ?_; rintro _ f w st ⟨p, E, aa, m, G, e, q, hq, ad, S, ab, s, bs⟩ H bt aP aQ; subst hq; refine sr (ov S rfl (Zj S rfl rfl Z4) fun f S => oe (Zh fun _ aR => ?_)); rcases Zy (decide (E < (((Zi 18446744073709551616 a)).length : Int))) with R | R
    · have H := Zx H R; refine ZE S rfl R (wp_skip (Zc (aR _ _ (Zh fun _ aS => wp_block (Zh fun _ aT => ?_))))); obtain ⟨bu, ae, H⟩ := Zb H; refine Zm (mv S rfl fun f S => ?_); have g := Zo ad g; obtain ⟨_, aU, aV, bv, rfl, aW, aX⟩ := Zla g (Zk ae).2.1; obtain ⟨rfl, aY⟩ := aX; refine ov S rfl (ZU S rfl rfl ZS (Zk ae).1 (ltI (Zv g) (Zk ae).2.2.1)) fun f S => ov S rfl (Z5 S rfl Zza (S.view aW)) fun f S => mw S rfl fun f S => mw S rfl fun f S => Zl (Zc (aT _ _ (Zh fun _ aZ => ?_))); obtain ⟨bw, a0, H⟩ := Zb H; obtain ⟨d, a1, H⟩ := Zb H; obtain ⟨h, T, H⟩ := Zb H; obtain ⟨bx, a2, H⟩ := Zb H; obtain ⟨k, a3, H⟩ := Zb H; obtain ⟨bz, U, H⟩ := Zb H; refine Zca (fl := #[true, true, true, true, true, true, true, true, true, true, true, true, true, false]) Zfa (by kernel_rfl) S ?_; intro ops O F w S; refine rfa O F 0 rfl rfl S (Zr S rfl) fun f S => rfa O F 1 rfl rfl S (Zr S rfl) fun f S => rfa O F 2 rfl rfl S (Zr S rfl) fun f S => rfa O F 3 rfl rfl S (Zj S rfl rfl (Z2b a0)) fun f S => rfa O F 4 rfl rfl S (Zj S rfl rfl (Zaa a1)) fun f S => ?_; obtain ⟨ak, rfl⟩ := ZSb S (j := 0) rfl (Z6b s (Zk T).2.2.2); have al := ZIa ab (Zk T).2.1; obtain ⟨bA, am⟩ : ∃ c, (List.take (Za .u64).n (List.drop ((d).toNat * (Za .u64).n) e)) = c := ⟨_, rfl⟩
      rw [am] at al; obtain ⟨rfl, bB⟩ := al; refine rfa O F 5 rfl rfl S (ZU S rfl rfl ZS (Zk T).1 (ltI s (Zk T).2.2.1)) fun f S => rfa O F 6 rfl rfl S (Z5 S rfl Zza (ZZc S (j := 0) rfl am (ltN s (Zk T).2.2.2) 0 [.int .u64 (h)] rfl zl)) fun f S => rfa O F 7 rfl rfl S (Zr S rfl) fun f S => rfa O F 8 rfl rfl S (Zr S rfl) fun f S => rfa O F 9 rfl rfl S (Zj S rfl rfl (ZHc a2)) fun f S => rfa O F 10 rfl rfl S (Zj S rfl rfl (ZQd a3)) fun f S => rfa O F 11 rfl rfl S (Zj S rfl rfl Z0e) fun f S => ?_; have an := ZIa ab (Zk U).2.1; obtain ⟨bC, a4⟩ : ∃ c, (List.take (Za .u64).n (List.drop ((d).toNat * (Za .u64).n) e)) = c := ⟨_, rfl⟩; rw [a4] at an; obtain ⟨rfl, bD⟩ := an; refine rfa O F 12 rfl rfl S (ZU S rfl rfl ZS (Zk U).1 (ltI s (Zk U).2.2.1)) fun f S => go1 O F 13 ?_; obtain ⟨w, a5, S⟩ := ZOb S Zza (off := 0 + (d).toNat * 1) (z := .int .u64 (orI .u64 h k)) (cs := [.int .u64 (orI .u64 h k)]) (ZBb rfl) rfl (i := 0) rfl (ZNb S (j := 0) rfl (ltN s (Zk U).2.2.2)) (by first | rfl | simp [ZYa]); have ao : Rep.rels (Za .u64) q (List.take (0 + (d).toNat * 1) e ++ [Value.int IntKind.u64 (orI .u64 h k)] ++ List.drop (0 + (d).toNat * 1 + 1) e) (p.set (d).toNat (orI .u64 h k)) := ZMb ab (Zk U).2.2.2 (show Rep.rel (Za .u64) q [.int .u64 (orI .u64 h k)] _ from (Zq (Zxa _ _))) rfl rfl
      have af : m = (p.set (d).toNat (orI .u64 h k)).length := ZHb s; refine nxs [0, 1, 2, 3, 4, 5, 6, 7, 8, 9, 10, 11, 12] [] O rfl rfl (a5 rfl rfl) (⟨Zp, Z0 O F (Zc (aZ _ _ ?_))⟩); obtain ⟨bE, a6, H⟩ := Zb H; obtain ⟨bF, a7, H⟩ := Zb H; obtain ⟨r, a8, H⟩ := Zb H; obtain ⟨bG, a9, H⟩ := Zb H; obtain ⟨bH, ba, H⟩ := Zb H; obtain ⟨u, ap, H⟩ := Zb H; obtain ⟨bI, V, H⟩ := Zb H; refine Zm (mv S rfl fun f S => mv S rfl fun f S => mv S rfl fun f S => ov S rfl (Zj S rfl rfl (Z2b a6)) fun f S => ov S rfl (Zj S rfl rfl (Zaa a7)) fun f S => ov S rfl (Zj S rfl rfl (Zaa a8)) fun f S => mv S rfl fun f S => mv S rfl fun f S => ov S rfl (Zj S rfl rfl (ZHc a9)) fun f S => ov S rfl (Zj S rfl rfl (ZGa ba)) fun f S => ov S rfl (Zj S rfl rfl (ZAb ap)) fun f S => ?_); have aq := ZIa ao (Zk V).2.1; obtain ⟨bJ, bb⟩ : ∃ c, (List.take (Za .u64).n (List.drop ((r).toNat * (Za .u64).n) (List.take (0 + (d).toNat * 1) e ++ [Value.int IntKind.u64 (orI .u64 h k)] ++ List.drop (0 + (d).toNat * 1 + 1) e))) = c := ⟨_, rfl⟩; rw [bb] at aq; obtain ⟨rfl, bK⟩ := aq; refine ov S rfl (ZU S rfl rfl ZS (Zk V).1 (ltI af (Zk V).2.2.1)) fun f S => ?_; obtain ⟨w, bc, S⟩ := ZOb S Zza (off := 0 + (r).toNat * 1) (z := .int .u64 (u)) (cs := [.int .u64 (u)]) (ZBb rfl) rfl (i := 0) rfl (ZNb S (j := 0) rfl (ltN af (Zk V).2.2.2)) (by first | rfl | simp [ZYa])
      have bd : Rep.rels (Za .u64) q (List.take (0 + (r).toNat * 1) ((List.take (0 + (d).toNat * 1) e ++ [Value.int IntKind.u64 (orI .u64 h k)] ++ List.drop (0 + (d).toNat * 1 + 1) e)) ++ [Value.int IntKind.u64 (u)] ++ List.drop (0 + (r).toNat * 1 + 1) ((List.take (0 + (d).toNat * 1) e ++ [Value.int IntKind.u64 (orI .u64 h k)] ++ List.drop (0 + (d).toNat * 1 + 1) e))) (((p.set (d).toNat (orI .u64 h k))).set (r).toNat u) := ZMb ao (Zk V).2.2.2 (show Rep.rel (Za .u64) q [.int .u64 (u)] _ from (Zq (ZFd aY ap))) rfl rfl; have be : m = (((p.set (d).toNat (orI .u64 h k))).set (r).toNat u).length := ZHb af; refine ZY wn rfl (bc rfl rfl) (Zl ?_); have S := S.fr' (σ' := [(1, .int .i64 (n)), (5, .slice (mkA (some ak)) (m) G), (23, .slice (some ⟨aU, aV, none⟩) J L), (24, .int .i64 ((((Zi 18446744073709551616 a)).length : Int))), (25, .int .i64 (E))]) rfl; refine Zma (Zc (aS _ _ ?_)); obtain ⟨bL, ar, H⟩ := Zb H; refine Zm (ov S rfl (Zj S rfl rfl (Zaa ar)) fun f S => mv S rfl fun f S => Zl ?_); obtain rfl := Zg H; refine aP _ rfl _ _ ⟨_, _, some ak, m, G, (List.take (0 + (r).toNat * 1) ((List.take (0 + (d).toNat * 1) e ++ [Value.int IntKind.u64 (orI .u64 h k)] ++ List.drop (0 + (d).toNat * 1 + 1) e)) ++ [Value.int IntKind.u64 (u)] ++ List.drop (0 + (r).toNat * 1 + 1) ((List.take (0 + (d).toNat * 1) e ++ [Value.int IntKind.u64 (orI .u64 h k)] ++ List.drop (0 + (d).toNat * 1 + 1) e))), _, rfl, ad, (S.fr' rfl), bd, be, (Z9 ar).2⟩
    have H := Zw H R; refine ZF S rfl R (wp_exit (ZP ?_)); obtain rfl := Zg H; have hq := aQ _ rfl; subst hq; have H := aN; refine ZP (Zja ?_); obtain rfl := Zg H; refine Zc (aL _ _ ⟨_, aa, m, G, e, _, rfl, (leT (leR _) ad), (S.fr' rfl), ab, s⟩)
  rintro f w ⟨C, P, D, Q, ac, Z, hq, bM, S, bf, bg⟩; subst hq; have H := aK; refine Zc (aH _ _ (Zh fun _ bh => ?_)); obtain ⟨bN, bi, H⟩ := Zb H; refine Zm (mv S rfl fun f S => ?_); obtain ⟨bO, bP, S, bj⟩ := S.pubSlice (i := 0) (A := (Za .u64)) (l := C) (ℓ' := []) rfl rfl bg bf rfl; refine opc S rfl (Zn S [.slice (mkA P) (D) Q] ZOd rfl rfl) (ZJd S.vin (show Rep.rel (Zt (Za .u64)) _ [.slice (mkA P) (D) Q] C from bj) bi) ?_; rintro _ bQ f w bR ⟨bS, rfl, au⟩ S; obtain ⟨bk, bm, bn, rfl⟩ := Z1 au; refine mw S rfl fun f S => Zl (Zc (bh _ _ (wp_ret ?_))); obtain rfl := Zg H; refine ZA S (ZJ rfl (ZC S rfl)) ⟨[.slice bk bm bn], rfl, au⟩
theorem Zlj {c : World} {b : Zd} (hv : VIn b c) {d : List Value} {a : Nat} (g : Rep.rel ZB b d a) {e : List Value} {n : Int} (h : Rep.rel (Za .i64) b e n) {z : Nat} (hm : Zwc a n = some z) :
    Ret Tryz.prog 177 #[ZB.val d, (Za .i64).val e] c b (fun y v' => ∃ f, y = ZB.val f ∧ ZB.rel v' f z) :=
  left_w hv g h (Zdp hm)
end Go.Eng
