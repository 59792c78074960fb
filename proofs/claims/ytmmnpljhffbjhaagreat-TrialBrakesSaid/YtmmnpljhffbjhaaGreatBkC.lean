/- Lemmas towards the statement: the engine of the walks, the functions' models, laws and walks, part 3. Conditions: as each states. -/
import Derived.Lib.AppendStr
import Derived.Lib.Builder
import Derived.Lib.UnsafeStr
import Derived.Test.YtmmnpljhffbjhaaGreatProg
import Derived.Test.YtmmnpljhffbjhaaGreatBkB
set_option linter.all false
set_option maxRecDepth 100000
namespace Go.Eng
theorem ZXi {n m : Nat} (h : n ≤ m) (hm : Z2a m) : Z2a n := by
  have := Z7c (B := 4294967296) (by decide) h; unfold Z2a at *; omega
theorem Zvj {n : Nat} (h : Z2a n) : bl n ≤ 2199023255552 := by
  unfold Z2a at h; have h1 := ZOc (B := 4294967296) (by decide) n; have h2 : 4294967296 ^ (Zi 4294967296 n).length = 2 ^ (32 * (Zi 4294967296 n).length) := by rw [Nat.pow_mul]
  rw [h2] at h1; have := Zkc h1; omega
theorem sm32_of {n k : Nat} (h : bl n ≤ 32 * k) (hk : k ≤ 68719476736) : Z2a n := by
  unfold Z2a; refine Nat.le_trans (ZGe (B := 4294967296) (k := k) (by decide) ?_) hk; have h1 := Zte n; have h2 : 4294967296 ^ k = 2 ^ (32 * k) := by rw [Nat.pow_mul]
  rw [h2]; exact Nat.lt_of_lt_of_le h1 (Nat.pow_le_pow_right (by omega) h)
theorem Znk {n : Nat} (h : bl n ≤ 2199023255552) : Z2a n := sm32_of (k := (bl n + 31) / 32) (by omega) (by omega)
theorem rgcd_eq {n m : Nat} (hn : Z2a n) (hm : Z2a m) : ZJg n m = some (Nat.gcd n m) := by
  unfold ZJg; rw [ZQa]; refine Z3a (fun s : Nat × Nat => Z2a s.1 ∧ Z2a s.2 ∧ Nat.gcd s.1 s.2 = Nat.gcd n m) (fun s => 2 * (bl s.1 + bl s.2) + if s.1 < s.2 then 1 else 0) (fun r : Nat => r = Nat.gcd n m) ⟨hn, hm, rfl⟩
    (ZLa (by have := Zvj hn; have := Zvj hm; simp only; split <;> omega)) ?_ ?_
  · rintro ⟨a, b⟩ ⟨ha, hb, hg⟩; simp only at ha hb hg ⊢; rw [ZRi]; by_cases h0 : b = 0
    · right; subst h0; exact ⟨_, rfl, by rw [← hg, Nat.gcd_zero_right]⟩
    · left; have h1 : Z3c a b = some (a / b, a % b) := by unfold Z3c; rw [if_pos ⟨ha, hb, h0⟩]
      have hlt : a % b < b := Nat.mod_lt _ (by omega); rw [decide_eq_true h0, ZK, h1, Ze]; refine ⟨_, rfl, ⟨hb, ZXi (Nat.le_of_lt hlt) hb, ?_⟩, ?_⟩
      · rw [← hg]; simp only; rw [Nat.gcd_comm b, ← Nat.gcd_rec, Nat.gcd_comm]
      · simp only; rw [if_neg (by omega)]; by_cases hab : a < b
        · rw [if_pos hab, Nat.mod_eq_of_lt hab]; omega
        · have := ZLk (a := a) (b := b) (by omega) h0; rw [if_neg hab]; omega
  · rintro r rfl; rw [Ze]
theorem rgcF_eq {n m z : Nat} (h : rgcF n m = some z) : ZJg n m = some z := by
  unfold rgcF at h; split at h
  · rename_i hh; rw [rgcd_eq hh.1 hh.2, h]
  · cases h
theorem ZUo {s : Bool} {n d : Nat} (hn : n ≠ 0) (hd : d ≠ 0) : decide ((mkRat (sgn s n) d).num < 0) = s ∧ (mkRat (sgn s n) d).num.natAbs = n / Nat.gcd n d ∧ (mkRat (sgn s n) d).den = d / Nat.gcd n d := by
  have e0 : (sgn s n).natAbs = n := by unfold sgn; split <;> omega
  have hg : 0 < Nat.gcd n d := Nat.gcd_pos_of_pos_left _ (Nat.pos_of_ne_zero hn); have hnum : (mkRat (sgn s n) d).num = sgn s n / (Nat.gcd n d : Int) := by rw [Rat.num_mkRat, Nat.gcd_comm, e0]; simp [hd, Nat.gcd_comm]
  have hden : (mkRat (sgn s n) d).den = d / Nat.gcd n d := by rw [Rat.den_mkRat, e0]; simp [hd, Nat.gcd_comm]
  obtain ⟨k, hk⟩ := Nat.gcd_dvd_left n d; have hk0 : k ≠ 0 := by rintro rfl; simp at hk; exact hn hk
  have hq : sgn s n / (Nat.gcd n d : Int) = sgn s k := by
    have : sgn s n = sgn s k * (Nat.gcd n d : Int) := by
      unfold sgn
      conv => lhs; rw [hk]
      split <;> grind
    rw [this, Int.mul_ediv_cancel _ (by omega)]
  have hnk : n / Nat.gcd n d = k := Nat.div_eq_of_eq_mul_right hg hk; rw [hnum, hq, hnk]; refine ⟨?_, by unfold sgn; split <;> omega, hden⟩
  cases s
  · apply decide_eq_false; simp only [sgn]; simp
  · apply decide_eq_true; simp only [sgn]; simp; omega
theorem Zqo {s : Bool} {n d : Nat} (hn : n ≠ 0) (hd : d ≠ 0) : Zhe s (n / Nat.gcd n d) (d / Nat.gcd n d) = some (mkRat (sgn s n) d) := by
  obtain ⟨h1, h2, h3⟩ := ZUo (s := s) hn hd; have := ZDl (mkRat (sgn s n) d); rw [h1, h2, h3] at this; exact this
theorem Zzm : Zhe false 0 1 = some 0 := ZDl 0
theorem Zmp {s : Bool} {n d : Nat} {z : Rat} (h : ZSb s n d = some z) : ZMh s n d = some z := by
  unfold ZSb at h; split at h
  · rename_i hh; obtain ⟨h1, h2, h3⟩ := hh
    cases h
    unfold ZMh; rw [ZNh]; by_cases h0 : n = 0
    · subst h0; rw [decide_eq_true rfl, ZK, ZFj, Ze, Zzm, Ze]; have e : sgn s 0 = 0 := by cases s <;> rfl
      rw [e, Rat.zero_mkRat]
    · have e1 : rgcF n d = some (Nat.gcd n d) := by unfold rgcF; rw [if_pos ⟨h1, h2⟩]
      have hg : Nat.gcd n d ≠ 0 := by have := Nat.gcd_pos_of_pos_left d (Nat.pos_of_ne_zero h0); omega
      have okg : Z2a (Nat.gcd n d) := ZXi (Nat.gcd_le_left _ (Nat.pos_of_ne_zero h0)) h1; have e2 : Z3c n (Nat.gcd n d) = some (n / Nat.gcd n d, n % Nat.gcd n d) := by unfold Z3c; rw [if_pos ⟨h1, okg, hg⟩]
      have e3 : Z3c d (Nat.gcd n d) = some (d / Nat.gcd n d, d % Nat.gcd n d) := by unfold Z3c; rw [if_pos ⟨h2, okg, hg⟩]
      rw [decide_eq_false h0, ZH, e1, Ze, e2, Ze, e3, Ze, Zqo h0 h3, Ze]
  · cases h
noncomputable def ZRg (n : Int) : Option (Rat) :=
 ifb (decide (n < (0 : Int)))
 (bnd (Zmd (IntKind.u64.wrap (-(IntKind.u64.wrap n)))) fun a =>
 bnd (ZCc ([(1 : Int)])) fun b =>
 bnd (ZSb true a b) fun c =>
 some c)
 (bnd (Zmd (IntKind.u64.wrap n)) fun d =>
 bnd (ZCc ([(1 : Int)])) fun e =>
 bnd (ZSb false d e) fun f =>
 some f)
noncomputable def Zji (n : Int) (d : Int) : Option (Rat × Int) :=
 ifb (d == ((0 : Int)))
 (bnd (ZIc ((0 : Int))) fun c =>
 some ((c, (3 : Int))))
 (bnd (ZIc n) fun a =>
 bnd (ZIc d) fun b =>
 bnd (ZSb ((decide (a.num < 0)) != (decide (b.num < 0))) a.num.natAbs b.num.natAbs) fun e =>
 some ((e, (0 : Int))))
noncomputable def Zgh (r : (Int × Int)) : Option (Rat) :=
 ifb (r.2 == ((0 : Int)))
 (bnd (ZIc r.1) fun a =>
 some a)
 (bnd (Zve r.1 r.2) fun b =>
 some b.1)
noncomputable def ZDh (x : Rat) : Option (Int) :=
 bnd (Zud x) fun a =>
 ifb (a)
 (some ((0 : Int)))
 (ifb (decide (x.num < 0))
 (some ((-1 : Int)))
 (some ((1 : Int))))
theorem ZMf {n : Nat} (h : n ≤ 18446744073709551616) : Z2a n := Znk (Nat.le_trans (Zkc (show n < 2 ^ 65 by omega)) (by decide))
theorem Z7l (n : Int) : mkRat n 1 = (n : Rat) := by
  have := Rat.mkRat_self (n : Rat)
  simpa using this
theorem ZIo {n : Int} (h1 : -9223372036854775808 ≤ n) (h2 : n ≤ 9223372036854775807) : ZRg n = some (n : Rat) := by
  unfold ZRg; rw [ZFj]; unfold Zmd ZSb; by_cases h : n < 0
  · obtain ⟨k, rfl⟩ : ∃ k : Nat, n = -(k : Int) := ⟨n.natAbs, by omega⟩; have e1 : IntKind.u64.wrap (-(IntKind.u64.wrap (-(k : Int)))) = (k : Int) := by rw [wrap_u64, wrap_u64]; omega
    rw [decide_eq_true h, ZK, e1, Ze, Ze, Int.toNat_natCast, if_pos ⟨ZMf (by omega), ZMf (by omega), by omega⟩, Ze, Z7l]; rfl
  · obtain ⟨k, rfl⟩ := Int.eq_ofNat_of_zero_le (show 0 ≤ n by omega); rw [decide_eq_false h, ZH, ZCb (by omega), Ze, Ze, Int.toNat_natCast, if_pos ⟨ZMf (by omega), ZMf (by omega), by omega⟩, Ze, Z7l]; rfl
theorem ZDn {n : Int} {z : Rat} (hn : inR .i64 n) (h : ZIc n = some z) : ZRg n = some z := by
  have := ZPb.1 hn; unfold ZIc at h; rw [ZIo (by omega) (by omega), h]
theorem ZSo (n m : Int) : sgn (decide (n < 0) != decide (m < 0)) n.natAbs = if m < 0 then -n else n := by
  have := Zlj n m; unfold Zmb at this; exact Option.some.inj this
theorem Z4m {n d : Int} {z : Rat × Int} (hn : inR .i64 n) (hd : inR .i64 d) (h : Zve n d = some z) : Zji n d = some z := by
  have hn := ZPb.1 hn; have hd := ZPb.1 hd; unfold Zve at h
  cases h
  unfold Zji ZIc; by_cases h0 : d = 0
  · subst h0; rfl
  · have e0 : (d == 0) = false := by simp [h0]
    rw [e0, ZH, if_neg h0, Ze, Ze]; unfold ZSb; rw [Rat.num_intCast, Rat.num_intCast, if_pos ⟨ZMf (by omega), ZMf (by omega), by omega⟩, Ze, ZSo, ← Zah]
theorem rofF_eq {r : Int × Int} {z : Rat} (h : Zsd r = some z) : Zgh r = some z := by
  unfold Zsd at h
  cases h
  unfold Zgh ZTd ZIc Zve; by_cases h0 : r.2 = 0
  · rw [if_pos h0, h0]; rfl
  · have : (r.2 == 0) = false := by simp [h0]
    rw [this, ZH, Ze, if_neg h0, if_neg h0]
theorem Zwp {x : Rat} {z : Int} (h : ZQg x = some z) : ZDh x = some z := by
  unfold ZQg at h
  cases h
  unfold ZDh Zud; rw [Ze]; by_cases h0 : x = 0
  · subst h0; rfl
  · have := ZAh h0; rw [decide_eq_false h0, ZH]; by_cases h1 : x.num < 0
    · rw [decide_eq_true h1, ZK, Int.sign_eq_neg_one_of_neg h1]
    · rw [decide_eq_false h1, ZH, Int.sign_eq_one_of_pos (by omega)]
end Go.Eng
namespace Go.Eng
open Go.RowKit
def Z0l (P : Program) (f : FuncId) (T e : TypeId) : Prop := ∀ (B b : Nat) (bs : List Value) (s : ByteArray) (w : World), Lib.IsBuilder T e B b bs w → bs.length + s.size ≤ 140737488355328 → B ≤ w.heap.size →
  Calls P f #[.pointer (some ⟨b, 0, none⟩), .string s] w fun x w' => x = .returned (.tuple #[.int .i64 s.size, .nilIface]) ∧ (Lib.BuilderAt T e B b (.pointer (some ⟨b, 0, none⟩)) (bs ++ Lib.strCells s) w' ∧ Below B w w')
def Tells (P : Program) (f : FuncId) (T e : TypeId) : Prop := ∀ (B b : Nat) (l : List UInt8) (w : World), Lib.IsBuilder T e B b (Lib.byteCells l) w → B ≤ w.heap.size →
  Calls P f #[.pointer (some ⟨b, 0, none⟩)] w fun x w' => x = .returned (.string ⟨l.toArray⟩) ∧ Below B w w'
structure Bld (T e b : Nat) (w0 : Base) (v : Zd) (m : List UInt8) (w : World) : Prop where
  is : Lib.IsBuilder T e b b (Lib.byteCells m) w
  old : ∀ k o, v k = some o → k < b
  base : w0.wd.heap.size ≤ b
  lt : b ≤ w.heap.size
variable {P : Program} {K : Nat} {w0 : Base} {v0 : Zd} {σ : List (Nat × Value)} {ℓ : List Loc} {v : Zd} {a : Act} {w : World}
variable {ops : Array Oper} {Q : Exit → Act → World → Prop} {rest : List Oper}
theorem St.below {w' : World} {b : Nat} (h : St K w0 v0 σ [] v a w) (x : Below b w w') (hv : ∀ k o, v k = some o → k < b) (hb : w0.wd.heap.size ≤ b) : St K w0 v0 σ [] v a w' :=
  ⟨h.size, h.dfr, h.fr, ⟨x.os.trans h.ext.os, x.tape.trans h.ext.tape, x.output.trans h.ext.output, Nat.le_trans h.ext.size x.size, fun k hk hn => (x.block k (by omega)).trans (h.ext.block k hk hn)⟩,
    ⟨h.vst.le, fun k o e => (x.block k (hv k o e)).trans (h.vst.vin k o e), h.vst.old⟩, fun e he => by simp at he, List.nodup_nil⟩
theorem op_newB {o : Oper} {d T : Nat} (e : Nat) (hS : St K w0 v0 σ ℓ v a w) (hw : Region.wanted o (yielded ops a.tmps) = true) (hd : o.dst = some d) (hK : d < K)
    (hrun : (execOp a.eval o).run P w = .ok (.value (.pointer (some ⟨w.heap.size, 0, none⟩))) (w.alloc (.cells #[.pointer none, .slice none 0 0] T)))
    (h : ∀ b a w, St K w0 v0 ((d, .pointer (some ⟨b, 0, none⟩)) :: σ) [] v a w → Bld T e b w0 v [] w → wpList P ops Q rest a w) : wpList P ops Q (o :: rest) a w :=
  Z6d hw (ZIe hrun (by
    rw [hd]
    have h1 : St K w0 v0 σ [] v a w := hS.drop (List.nil_sublist _)
    have h2 : Ext w (w.alloc (.cells #[.pointer none, .slice none 0 0] T)) := Ext.alloc w _
    exact h w.heap.size _ _ ((h1.step h2 (VStep.ext h1.vin h2)).put _ hK) ⟨Lib.fresh_isBuilder T e w, fun k o hk => h1.vin.lt hk, h1.ext.size, h2.size⟩))
theorem Zlo (l l' : List UInt8) : Lib.byteCells l ++ Lib.strCells (Z1 l') = Lib.byteCells (l ++ l') := by simp [Lib.byteCells, Lib.strCells, Z1]
theorem ZFo {o : Oper} {d f T e b : Nat} {m s : List UInt8} (hW : Z0l P f T e) (hB : Bld T e b w0 v m w) (hl : (m ++ s).length ≤ 140737488355328) (hS : St K w0 v0 σ [] v a w) (hw : Region.wanted o (yielded ops a.tmps) = true) (hd : o.dst = some d) (hK : d < K)
    (hrun : (execOp a.eval o).run P w = .ok (.enter f #[.pointer (some ⟨b, 0, none⟩), .string (Z1 s)]) w)
    (h : ∀ a w, St K w0 v0 ((d, .tuple #[.int .i64 s.length, .nilIface]) :: σ) [] v a w → Bld T e b w0 v (m ++ s) w → wpList P ops Q rest a w) : wpList P ops Q (o :: rest) a w := by
  have hc := hW b b (Lib.byteCells m) (Z1 s) w hB.is (by rw [Lib.byteCells_length, Zid, ← List.length_append]; exact hl) hB.lt; refine Z6d hw (ZSg hrun (Calls.mono hc fun x w' ⟨e1, e2, e3⟩ => ⟨_, e1, ?_⟩)); rw [hd]; rw [Zid] at *; rw [Zlo] at e2; exact h _ _ ((hS.below e3 hB.old hB.base).put _ hK) ⟨.inr e2, hB.old, hB.base, Nat.le_trans hB.lt e3.size⟩
theorem op_tell {o : Oper} {d f T e b : Nat} {m : List UInt8} (hT : Tells P f T e) (hB : Bld T e b w0 v m w) (hS : St K w0 v0 σ [] v a w) (hw : Region.wanted o (yielded ops a.tmps) = true) (hd : o.dst = some d) (hK : d < K)
    (hrun : (execOp a.eval o).run P w = .ok (.enter f #[.pointer (some ⟨b, 0, none⟩)]) w)
    (h : ∀ a w, St K w0 v0 ((d, .string (Z1 m)) :: σ) [] v a w → wpList P ops Q rest a w) : wpList P ops Q (o :: rest) a w := by
  have hc := hT b b m w hB.is hB.lt; refine Z6d hw (ZSg hrun (Calls.mono hc fun x w' ⟨e1, e3⟩ => ⟨_, e1, ?_⟩)); rw [hd]; exact h _ _ ((hS.below e3 hB.old hB.base).put _ hK)
def Zyg (l : List UInt8) : Option Unit := if l.length ≤ 140737488355328 then some () else none
theorem Zdp {l : List UInt8} {u : Unit} (h : Zyg l = some u) : l.length ≤ 140737488355328 := by
  unfold Zyg at h; split at h
  · assumption
  · cases h
theorem ZOn {q : Option Nat} {b o : Nat} (h : mkA q = some ⟨b, o, none⟩) : q = some b ∧ o = 0 := by
  cases q with
  | none => cases h
  | some c => cases h; exact ⟨rfl, rfl⟩
noncomputable def Z2f (a : Nat) : Option ((List UInt8)) :=
 bnd (bnd (Z4 (fun s : Nat × (List UInt8) => match s with
 | (e, f) =>
 (ifb (decide ((0 : Int) < (((Zi 4294967296 e)).length : Int)))
 (bnd (Zke e ((1000000000 : Int))) fun c =>
 bnd (bnd (Z4 (fun s : (List UInt8) × Int × Int => match s with
 | (d, b, g) =>
 (bnd (ifb (decide (g < (9 : Int)))
 (ifb (decide ((0 : Int) < (((Zi 4294967296 c.1)).length : Int)))
 (some true)
 (some (decide ((0 : Int) < b))))
 (some false))
 (fun (j : Bool) =>
 (ifb (j)
 (bnd (rem .u32 b ((10 : Int))) fun k =>
 bnd (rem .u32 b ((10 : Int))) fun l =>
 bnd (Zlb (([48, 49, 50, 51, 52, 53, 54, 55, 56, 57] : List UInt8)) k (IntKind.u32.wrap (l + ((1 : Int))))) fun h =>
 bnd (Z7b (h ++ d)) fun r =>
 bnd (quo .u32 b ((10 : Int))) fun m =>
 bnd (chk .i64 (g + ((1 : Int)))) fun n =>
 some (.inl (((h ++ d), m, n))))
 (some (.inr d)))))) Zia ((f, c.2, (0 : Int))))
 (fun (o : (List UInt8)) =>
 (some o)))
 (fun (p : (List UInt8)) =>
 (some (.inl ((c.1, p))))))
 (some (.inr f)))) Zia ((a, ([] : List UInt8))))
 (fun (q : (List UInt8)) =>
 (some q)))
 (fun (i : (List UInt8)) =>
 (ifb (i == (([] : List UInt8)))
 (some (([48] : List UInt8)))
 (some i)))
noncomputable def Zkg (a : Nat) : Option ((List UInt8)) :=
 bnd (bnd (Z4 (fun s : Nat × (List (List UInt8)) => match s with
 | (h, c) =>
 (ifb (decide ((0 : Int) < (((Zi 18446744073709551616 h)).length : Int)))
 (bnd (Z8d h ((10000000000000000000 : Int))) fun d =>
 bnd (ZFf d.2) fun b =>
 bnd (ifb (decide ((0 : Int) < (((Zi 18446744073709551616 d.1)).length : Int)))
 (bnd (chk .i64 (((19 : Int)) - ((b.length : Int)))) fun m =>
 bnd (ZAf (([48] : List UInt8)) m) fun i =>
 bnd (Z7b (i ++ b)) fun r =>
 some ((i ++ b)))
 (some b))
 (fun (j : (List UInt8)) =>
 (bnd (ZZa 16 (c ++ [j])) fun t =>
 some (.inl ((d.1, (c ++ [j])))))))
 (some (.inr c)))) Zia ((a, ([] : (List (List UInt8))))))
 (fun (n : (List (List UInt8))) =>
 (some n)))
 (fun (e : (List (List UInt8))) =>
 (ifb (((e.length : Int)) == ((0 : Int)))
 (some (([48] : List UInt8)))
 (bnd (chk .i64 (((e.length : Int)) - ((1 : Int)))) fun o =>
 bnd (bnd (Z4 (fun s : (List UInt8) × Int => match s with
 | (f, g) =>
 (ifb (decide ((0 : Int) ≤ g))
 (bnd (idx e g) fun k =>
 bnd (Zyg (f ++ k)) fun u =>
 bnd (chk .i64 (g - ((1 : Int)))) fun p =>
 some (.inl (((f ++ k), p))))
 (some (.inr f)))) Zia ((([] : List UInt8), o)))
 (fun (q : (List UInt8)) =>
 (some q)))
 (fun (l : (List UInt8)) =>
 (bnd (Z7b l) fun v =>
 some l)))))
noncomputable def ZCh (x : Rat) : Option ((List UInt8)) :=
 bnd (ZBf ((x.num).natAbs)) fun a =>
 bnd (ifb (decide (x.num < 0))
 (bnd (Z7b ((([45] : List UInt8)) ++ a)) fun e =>
 some (((([45] : List UInt8)) ++ a)))
 (some a))
 (fun (b : (List UInt8)) =>
 (bnd (ifb (decide ((0 : Int) < (((Zi 18446744073709551616 ((Zcb x.den)))).length : Int)))
 (bnd (ZBf ((Zcb x.den))) fun c =>
 bnd (Z7b ((([47] : List UInt8)) ++ c)) fun f =>
 bnd (Z7b (b ++ (((([47] : List UInt8)) ++ c)))) fun g =>
 some ((b ++ (((([47] : List UInt8)) ++ c)))))
 (some b))
 (fun (d : (List UInt8)) =>
 (some d))))
theorem ZRh (n : Nat) : (ZBa n).length ≤ bl n := by
  induction n using Nat.strongRecOn with
  | ind n ih =>
    by_cases h : n = 0
    · subst h; rw [ZXc]; simp
    · rw [Zce h, List.length_append]; have h1 := ih (n / 10) (by omega); have h2 : bl (n / 10) + 1 ≤ bl n := by
        rw [ZUh h]; exact Nat.add_le_add_right (Zbd (by omega)) 1
      simp only [List.length_cons, List.length_nil]; omega
theorem ZLm {n k : Nat} (h : n < 10 ^ k) : (ZBa n).length ≤ k := by
  induction k generalizing n with
  | zero => simp at h; subst h; rw [ZXc]; simp
  | succ k ih =>
    by_cases h0 : n = 0
    · subst h0; rw [ZXc]; simp
    · rw [Zce h0, List.length_append]; have := ih (n := n / 10) (by rw [Nat.pow_succ] at h; omega); simp only [List.length_cons, List.length_nil]; omega
theorem ZOo {q : Nat} (hq : q ≠ 0) : ∀ (k r : Nat), r < 10 ^ k → ZBa (q * 10 ^ k + r) = ZBa q ++ (List.replicate (k - (ZBa r).length) 48 ++ ZBa r) := by
  intro k
  induction k with
  | zero => intro r h; simp at h; subst h; rw [ZXc]; simp
  | succ k ih =>
    intro r h; rw [Nat.pow_succ] at h; have hn : q * 10 ^ (k + 1) + r ≠ 0 := by
      have : 0 < q * 10 ^ (k + 1) := Nat.mul_pos (by omega) (Nat.pow_pos (by omega)); omega
    have e1 : (q * 10 ^ (k + 1) + r) / 10 = q * 10 ^ k + r / 10 := by rw [Nat.pow_succ, ← Nat.mul_assoc]; generalize q * 10 ^ k = p; omega
    have e2 : (q * 10 ^ (k + 1) + r) % 10 = r % 10 := by rw [Nat.pow_succ, ← Nat.mul_assoc]; generalize q * 10 ^ k = p; omega
    rw [Zce hn, e1, e2, ih (r / 10) (by omega)]; by_cases h0 : r = 0
    · subst h0; simp only [Nat.zero_div, ZXc, List.length_nil, Nat.sub_zero, List.append_nil, List.append_assoc]; congr 1; rw [List.replicate_succ']; rfl
    · rw [Zce h0, List.length_append]; simp only [List.length_cons, List.length_nil, List.append_assoc]; rw [show k + 1 - ((ZBa (r / 10)).length + (0 + 1)) = k - (ZBa (r / 10)).length by omega]
theorem ZSd {l : List UInt8} (h : l.length ≤ 140737488355328) : Z7b l = some () := by unfold Z7b; rw [if_pos (by unfold maxLen; omega)]
theorem ZEp {d : Nat} (h : d < 10) : Zlb ([48, 49, 50, 51, 52, 53, 54, 55, 56, 57] : List UInt8) (d : Int) ((d + 1 : Nat) : Int) = some [UInt8.ofNat (48 + d)] := by
  have : d = 0 ∨ d = 1 ∨ d = 2 ∨ d = 3 ∨ d = 4 ∨ d = 5 ∨ d = 6 ∨ d = 7 ∨ d = 8 ∨ d = 9 := by omega
  rcases this with rfl | rfl | rfl | rfl | rfl | rfl | rfl | rfl | rfl | rfl <;> rfl
theorem quo_u32 {p q : Nat} (hq : 0 < q) (hp : p < 4294967296) : quo .u32 (p : Int) (q : Int) = some ((p / q : Nat) : Int) := by
  unfold quo; rw [if_neg (by omega)]; have e : (p : Int).tdiv (q : Int) = ((p / q : Nat) : Int) := by simp [Int.tdiv_eq_ediv_of_nonneg]
  have h : p / q ≤ p := Nat.div_le_self _ _; generalize p / q = r at *; have h5 : inR .u32 (r : Int) := (show (0 : Int) ≤ (r : Int) ∧ (r : Int) ≤ 4294967295 from ⟨by omega, by omega⟩); rw [e, ZOj h5]
theorem beq_nil {l : List UInt8} : (l == ([] : List UInt8)) = decide (l = []) := by
  cases l <;> rfl
theorem ZDk {n : Nat} : ZBa n = [] ↔ n = 0 := by
  constructor
  · intro h; rcases Nat.eq_zero_or_pos n with h0 | h0
    · exact h0
    · rw [Zce (by omega)] at h; simp at h
  · rintro rfl; exact ZXc
theorem Zhn {a : Nat} (ha : Z2a a) : Z2f a = some (Zsb a) := by
  unfold Z2f; rw [ZQa]; have hbl := Zvj ha; refine Z3a (fun s : Nat × List UInt8 => Z2a s.1 ∧ ZBa s.1 ++ s.2 = ZBa a) (fun s => bl s.1) (fun r : List UInt8 => r = ZBa a) ⟨ha, by simp⟩ (ZLa (by simp only; omega)) ?_ ?_
  · rintro ⟨x, s⟩ ⟨hx, he⟩; simp only at hx he ⊢; rw [ZRi]; by_cases h0 : x = 0
    · right; subst h0; rw [show decide ((0 : Nat) ≠ 0) = false from rfl, ZH]; exact ⟨_, rfl, by rw [← he, ZXc]; rfl⟩
    · left; have e1 : Zke x (1000000000 : Int) = some (x / 1000000000, ((x % 1000000000 : Nat) : Int)) := by
        unfold Zke; rw [if_pos ⟨by unfold ZHa; unfold Z2a at hx; omega, by omega⟩]; rfl
      rw [decide_eq_true h0, ZK, e1, Ze, ZQa]; have hslen : s.length ≤ 4398046511104 := by
        have := ZRh a; rw [← he, List.length_append] at this; omega
      refine Z1j (s := (s, ((x % 1000000000 : Nat) : Int), (0 : Int))) (fun t : List UInt8 × Int × Int => ∃ r k m : Nat, t.2.1 = (r : Int) ∧ t.2.2 = (k : Int) ∧ k + m = 9 ∧ r < 10 ^ m ∧ r < 1000000000 ∧ ZBa (x / 1000000000 * 10 ^ m + r) ++ t.1 = ZBa a) (fun t => 9 - t.2.2.toNat)
        (fun t : List UInt8 => ZBa (x / 1000000000) ++ t = ZBa a) ⟨x % 1000000000, 0, 9, rfl, rfl, rfl, Nat.mod_lt _ (by decide), Nat.mod_lt _ (by decide), by
          rw [show x / 1000000000 * 10 ^ 9 + x % 1000000000 = x by omega]; exact he⟩ (ZLa (by simp)) ?_ ?_
      · rintro ⟨t, r, k⟩ ⟨r, k, m, rfl, rfl, hk, hr, hr2, hd⟩; simp only at hd ⊢; rw [ZRi]; have htl : t.length ≤ 4398046511104 := by
          have := ZRh a; rw [← hd, List.length_append] at this; omega
        have cond : ifb (decide ((k : Int) < 9)) (ifb (decide (x / 1000000000 ≠ 0)) (some true) (some (decide ((0 : Int) < (r : Int))))) (some false) = some (decide (k < 9 ∧ x / 1000000000 * 10 ^ m + r ≠ 0)) := by
          by_cases h1 : k < 9
          · rw [decide_eq_true (by omega), ZK]; by_cases h2 : x / 1000000000 = 0
            · rw [decide_eq_false (by simp [h2]), ZH, h2]; exact congrArg some (decide_eq_decide.2 (by omega))
            · rw [decide_eq_true h2, ZK]; have : 0 < x / 1000000000 * 10 ^ m := Nat.mul_pos (by omega) (Nat.pow_pos (by omega)); rw [decide_eq_true ⟨h1, by omega⟩]
          · rw [decide_eq_false (by omega), ZH, decide_eq_false (by omega)]
        rw [cond, Ze]; by_cases hc : k < 9 ∧ x / 1000000000 * 10 ^ m + r ≠ 0
        · left; obtain ⟨h1, h2⟩ := hc; obtain ⟨m, rfl⟩ : ∃ j, m = j + 1 := ⟨m - 1, by omega⟩; have c1 : rem .u32 (r : Int) 10 = some ((r % 10 : Nat) : Int) := Zse (q := 10) (by omega); have c2 : quo .u32 (r : Int) 10 = some ((r / 10 : Nat) : Int) := quo_u32 (q := 10) (by omega) (by omega); have c3 : IntKind.u32.wrap (((r % 10 : Nat) : Int) + 1) = ((r % 10 + 1 : Nat) : Int) := by rw [wrap_u32]; omega
          have c4 : chk .i64 ((k : Int) + 1) = some ((k + 1 : Nat) : Int) := by rw [show (k : Int) + 1 = ((k + 1 : Nat) : Int) by omega, Z9a (by omega)]
          rw [decide_eq_true ⟨h1, h2⟩, ZK, c1, Ze, Ze, c3, ZEp (Nat.mod_lt _ (by omega)), Ze, ZSd (by simp; omega), Ze, c2, Ze, c4, Ze]; rw [Nat.pow_succ] at hr; refine ⟨_, rfl, ⟨r / 10, k + 1, m, rfl, rfl, by omega, by omega, by omega, ?_⟩, by simp; omega⟩; simp only; rw [← hd, Zce h2, List.append_assoc]; have e2 : (x / 1000000000 * 10 ^ (m + 1) + r) / 10 = x / 1000000000 * 10 ^ m + r / 10 := by rw [Nat.pow_succ, ← Nat.mul_assoc]; generalize x / 1000000000 * 10 ^ m = p; omega
          have e3 : (x / 1000000000 * 10 ^ (m + 1) + r) % 10 = r % 10 := by rw [Nat.pow_succ, ← Nat.mul_assoc]; generalize x / 1000000000 * 10 ^ m = p; omega
          rw [e2, e3]
        · right; rw [decide_eq_false hc, ZH]; refine ⟨_, rfl, ?_⟩; rw [← hd]; congr 2; by_cases hm : m = 0
          · subst hm; simp at hr; simp [hr]
          · have h2 : x / 1000000000 * 10 ^ m + r = 0 := by
              rcases Nat.eq_zero_or_pos (x / 1000000000 * 10 ^ m + r) with h | h
              · exact h
              · exact absurd ⟨by omega, by omega⟩ hc
            have h3 : x / 1000000000 * 10 ^ m = 0 := by omega
            rcases Nat.mul_eq_zero.1 h3 with h | h
            · rw [h2, h]
            · exact absurd h (Nat.pos_iff_ne_zero.1 (Nat.pow_pos (by omega)))
      · rintro t ht; rw [Ze]; refine ⟨_, rfl, ⟨ZXi (Nat.div_le_self _ _) hx, ht⟩, ?_⟩; simp only; have := ZUh h0; have h3 : bl (x / 1000000000) ≤ bl (x / 2) := Zbd (by omega); omega
  · rintro r rfl; rw [Ze, beq_nil]; unfold Zsb; by_cases h0 : a = 0
    · subst h0; rw [decide_eq_true ZXc, ZK, if_pos rfl]
    · rw [decide_eq_false (fun h => h0 (ZDk.1 h)), ZH, if_neg h0]
theorem ZOm {n : Nat} {z : List UInt8} (h : Zof n = some z) : Z2f n = some z := by
  unfold Zof at h; split at h
  · rename_i hh; rw [Zhn hh, h]
  · cases h
theorem Zsn (r : List (List UInt8)) (j : Nat) : ((r.drop j).reverse.flatten).length ≤ r.reverse.flatten.length := by
  have h : r.reverse.flatten = (r.drop j).reverse.flatten ++ (r.take j).reverse.flatten := by
    rw [← List.flatten_append, ← List.reverse_append, List.take_append_drop]
  rw [h, List.length_append]; omega
theorem ZJk (c : UInt8) : ∀ k : Nat, (List.replicate k [c]).flatten = List.replicate k c
  | 0 => rfl
  | k + 1 => by rw [List.replicate_succ, List.flatten_cons, ZJk c k, List.replicate_succ]; rfl
theorem text_eq {a : Nat} (ha : okN a) : Zkg a = some (Zsb a) := by
  unfold Zkg; have hbl := Z9i ha; have hda := ZRh a; rw [ZQa]; refine Z3a (fun s : Nat × List (List UInt8) => okN s.1 ∧ ZBa s.1 ++ s.2.reverse.flatten = ZBa a ∧ bl s.1 + s.2.length ≤ bl a) (fun s => bl s.1) (fun r : List (List UInt8) => r.reverse.flatten = ZBa a ∧ r.length ≤ bl a ∧ (a ≠ 0 → r ≠ [])) ⟨ha, by simp, by simp⟩ (ZLa (by simp only; omega)) ?_ ?_
  · rintro ⟨x, s⟩ ⟨hx, he, hl⟩; simp only at hx he hl ⊢; by_cases h0 : x = 0
    · right; subst h0; rw [ZRa, show decide ((0 : Int) < (([] : List Int).length : Int)) = false from rfl, ZH]; rw [ZXc, List.nil_append] at he; refine ⟨_, rfl, he, by omega, fun h1 h2 => ?_⟩; subst h2; exact h1 (ZDk.1 he.symm)
    · left; have hpos := List.length_pos_iff.2 ((ZAc (n := x) (B := 18446744073709551616) (by decide)).2 h0); have e1 : Z8d x (10000000000000000000 : Int) = some (x / 10000000000000000000, ((x % 10000000000000000000 : Nat) : Int)) := by
        unfold Z8d; rw [if_pos ⟨hx, by omega⟩]; rfl
      have e2 : ZFf ((x % 10000000000000000000 : Nat) : Int) = some (ZBa (x % 10000000000000000000)) := by unfold ZFf; rw [Int.toNat_natCast]
      rw [decide_eq_true (show (0 : Int) < ((Zi 18446744073709551616 x).length : Int) by omega), ZK, e1, Ze]; simp only; rw [e2, Ze]; have hr : (ZBa (x % 10000000000000000000)).length ≤ 19 := ZLm (k := 19) (Nat.mod_lt _ (by decide)); have hb2 : bl (x / 10000000000000000000) + 1 ≤ bl x := by
        rw [ZUh h0]; exact Nat.add_le_add_right (Zbd (by omega)) 1
      have hsplit : ∃ p : List UInt8, ifb (decide ((0 : Int) < ((Zi 18446744073709551616 (x / 10000000000000000000)).length : Int))) (bnd (chk .i64 (19 - ((ZBa (x % 10000000000000000000)).length : Int))) fun y218 => bnd (ZAf [48] y218) fun y220 => bnd (Z7b (y220 ++ ZBa (x % 10000000000000000000))) fun y227 => some (y220 ++ ZBa (x % 10000000000000000000))) (some (ZBa (x % 10000000000000000000))) = some p ∧ ZBa (x / 10000000000000000000) ++ p = ZBa x := by
        by_cases hq : x / 10000000000000000000 = 0
        · refine ⟨_, by rw [hq, ZRa]; rfl, ?_⟩; rw [hq, ZXc, List.nil_append]; congr 1; omega
        · have hpos := List.length_pos_iff.2 ((ZAc (n := x / 10000000000000000000) (B := 18446744073709551616) (by decide)).2 hq); obtain ⟨k, hk⟩ : ∃ k, k = 19 - (ZBa (x % 10000000000000000000)).length := ⟨_, rfl⟩; have e3 : chk .i64 (19 - ((ZBa (x % 10000000000000000000)).length : Int)) = some (k : Int) := by rw [show (19 - ((ZBa (x % 10000000000000000000)).length : Int)) = (k : Int) by omega, Z9a (by omega)]
          have e4 : ZAf [48] (k : Int) = some (List.replicate k 48) := by
            unfold ZAf; rw [if_pos ⟨by omega, by simp; omega⟩, Int.toNat_natCast, ZJk]
          refine ⟨List.replicate k 48 ++ ZBa (x % 10000000000000000000), ?_, ?_⟩
          · rw [decide_eq_true (by omega), ZK, e3, Ze, e4, Ze, ZSd (by simp; omega), Ze]
          · have := ZOo hq 19 (x % 10000000000000000000) (Nat.mod_lt _ (by decide)); rw [show x / 10000000000000000000 * 10 ^ 19 + x % 10000000000000000000 = x by omega] at this; rw [this, hk]
      obtain ⟨p, ep, hp⟩ := hsplit; rw [ep, Ze, ZWd (by simp; omega), Ze]; refine ⟨_, rfl, ⟨Zwi (Nat.div_le_self _ _) hx, ?_, by simp; omega⟩, by simp only; omega⟩; simp only [List.reverse_append, List.reverse_cons, List.reverse_nil, List.nil_append, List.singleton_append, List.flatten_cons]; rw [← List.append_assoc, hp, he]
  · rintro r ⟨hr, hl, hne⟩; rw [Ze]; by_cases h0 : a = 0
    · subst h0; have : r = [] := by
        have := hl; simp [bl] at this; exact this
      subst this; rfl
    · have hne := hne h0; have hpos : 0 < r.length := List.length_pos_iff.2 hne; have e1 : ((r.length : Int) == 0) = false := beq_false_of_ne (by omega); rw [e1, ZH, Zea (by omega) (by omega), Ze, ZQa]; unfold Zsb; rw [if_neg h0]; refine Z3a (fun s : List UInt8 × Int => ∃ k : Nat, s.2 = (k : Int) - 1 ∧ k ≤ r.length ∧ s.1 = (r.drop k).reverse.flatten) (fun s => (s.2 + 1).toNat) (fun t : List UInt8 => t = ZBa a) ⟨r.length, rfl, by omega, by simp⟩ (ZLa (by simp only; omega)) ?_ ?_
      · rintro ⟨s, i⟩ ⟨k, hi, hk, hs⟩; simp only at hi hs ⊢; subst hi hs; by_cases hk0 : k = 0
        · right; subst hk0; rw [show decide ((0 : Int) ≤ ((0 : Nat) : Int) - 1) = false from rfl, ZH]; exact ⟨_, rfl, by rw [List.drop_zero]; exact hr⟩
        · left; obtain ⟨j, rfl⟩ : ∃ j, k = j + 1 := ⟨k - 1, by omega⟩; have ej : ((j + 1 : Nat) : Int) - 1 = (j : Int) := by omega
          have hj : j < r.length := by omega
          have hnew : (r.drop (j + 1)).reverse.flatten ++ r[j] = (r.drop j).reverse.flatten := by
            rw [List.drop_eq_getElem_cons hj, List.reverse_cons, List.flatten_append]; simp
          have hlen : ((r.drop j).reverse.flatten).length ≤ r.reverse.flatten.length := Zsn r j; rw [hr] at hlen; have e2 : Zyg ((r.drop (j + 1)).reverse.flatten ++ r[j]) = some () := by unfold Zyg; rw [if_pos (by rw [hnew]; omega)]
          rw [ej, decide_eq_true (show (0 : Int) ≤ (j : Int) by omega), ZK, Z3 hj, Ze, e2, Ze, Zea (by omega) (by omega), Ze]; exact ⟨_, rfl, ⟨j, rfl, by omega, hnew⟩, by simp⟩
      · rintro t rfl; rw [Ze, ZSd (by omega), Ze]
theorem Zbn {n : Nat} {z : List UInt8} (h : ZBf n = some z) : Zkg n = some z := by
  unfold ZBf at h; split at h
  · rename_i hh; rw [text_eq hh, h]
  · cases h
theorem ZJh {n : Nat} (h : bl n ≤ 4398046511104) : (Zsb n).length ≤ 4398046511104 := by
  unfold Zsb; split
  · simp
  · have := ZRh n; omega
theorem ZUm {x : Rat} {z : List UInt8} (h : ZLd x = some z) : ZCh x = some z := by
  unfold ZLd at h; split at h
  · rename_i hh; obtain ⟨h1, h2⟩ := hh
    cases h
    unfold ZCh ZBf; have l1 := ZJh (n := x.num.natAbs) (by omega); have l2 := ZJh (n := x.den) (by omega); rw [if_pos (ZXa (by omega)), Ze]; have e1 : ifb (decide (x.num < 0)) (bnd (Z7b ([45] ++ Zsb x.num.natAbs)) fun y80 => some (([45] : List UInt8) ++ Zsb x.num.natAbs)) (some (Zsb x.num.natAbs)) = some ((if x.num < 0 then [45] else []) ++ Zsb x.num.natAbs) := by
      by_cases h : x.num < 0
      · rw [decide_eq_true h, ZK, ZSd (by simp; omega), Ze, if_pos h]
      · rw [decide_eq_false h, ZH, if_neg h]; rfl
    rw [e1, Ze]; unfold txtQ; have l3 : ((if x.num < 0 then [45] else []) ++ Zsb x.num.natAbs : List UInt8).length ≤ 4398046511105 := by
      rw [List.length_append]; split <;> simp <;> omega
    generalize ((if x.num < 0 then [45] else []) ++ Zsb x.num.natAbs : List UInt8) = s at *; by_cases hd : x.den = 1
    · rw [hd]; rw [show Zcb 1 = 0 from rfl, ZRa]; simp [ifb, bnd]
    · have e2 : Zcb x.den = x.den := by unfold Zcb; rw [if_neg hd]
      have hpos := List.length_pos_iff.2 ((ZAc (n := x.den) (B := 18446744073709551616) (by decide)).2 x.den_nz); rw [e2, decide_eq_true (by omega), ZK, if_pos (ZXa (by omega)), Ze, ZSd (by simp; omega), Ze, ZSd (by simp; omega), Ze, Ze, if_neg hd]; rfl
  · cases h
noncomputable def ZHi (x : Rat) : Option (Bool) :=
 bnd (Z5d x) fun a =>
 some (decide (a ≤ (0 : Int)))
noncomputable def ZOh (l : (List Rat)) (g : Unit) : Option (Int) :=
 bnd (bnd (Z4 (fun s : Int => match s with
 | a =>
 (ifb (decide (a < (l.length : Int)))
 (bnd (idx l a) fun b =>
 bnd (ZHi b) fun c =>
 ifb (c)
 (some (.inr ((.inl a))))
 (bnd (chk .i64 (a + ((1 : Int)))) fun d =>
 some (.inl d)))
 (some (.inr ((.inr (()))))))) Zia ((0 : Int)))
 (fun (p : (Int) ⊕ (Unit)) => match p with
 | .inl e =>
 (some ((.inr e)))
 | .inr (()) =>
 (some ((.inl (()))))))
 (fun (p : (Unit) ⊕ (Int)) => match p with
 | .inl (()) =>
 (some ((-1 : Int)))
 | .inr f =>
 (some f))
noncomputable def ZHg (l : (List Rat)) (g : Unit) : Option (Bool) :=
 bnd (ZOh l (())) fun a =>
 some (decide ((0 : Int) ≤ a))
noncomputable def Zfe (l : (List Rat)) : Option (Bool) :=
 bnd (ZHg l (())) fun a =>
 some (!(a))
noncomputable def ZTj (t : (Rat × (List Rat))) : Option (Int) :=
 bnd (Zfe ([t.1])) fun b =>
 ifb (!(b))
 (some ((1 : Int)))
 (bnd (ifb (((t.2.length : Int)) == ((0 : Int)))
 (some true)
 (some (decide ((16 : Int) ≤ (t.2.length : Int)))))
 (fun (c : Bool) =>
 (ifb (c)
 (some ((4 : Int)))
 (bnd (bnd (Z4 (fun s : Int => match s with
 | a =>
 (ifb (decide (a < (t.2.length : Int)))
 (bnd (idx t.2 a) fun d =>
 bnd (ifb (decide ((0 : Int) < a))
 (bnd (chk .i64 (a - ((1 : Int)))) fun e =>
 bnd (idx t.2 e) fun f =>
 bnd (ZAe d f) fun g =>
 some (decide (g ≤ (0 : Int))))
 (some false))
 (fun (h : Bool) =>
 (ifb (h)
 (some (.inr ((.inl ((7 : Int))))))
 (bnd (chk .i64 (a + ((1 : Int)))) fun i =>
 some (.inl i)))))
 (some (.inr ((.inr (()))))))) Zia ((0 : Int)))
 (fun (p : (Int) ⊕ (Unit)) => match p with
 | .inl j =>
 (some ((.inr j)))
 | .inr (()) =>
 (some ((.inl (()))))))
 (fun (p : (Unit) ⊕ (Int)) => match p with
 | .inl (()) =>
 (some ((0 : Int)))
 | .inr k =>
 (some k))))))
noncomputable def ZSj (y : Rat) (r : Rat) : Option (Bool) :=
 bnd (ZAe y r) fun a =>
 some (decide ((0 : Int) ≤ a))
noncomputable def Zuj (l : (List Rat)) (g : Rat) : Option (Int) :=
 bnd (bnd (Z4 (fun s : Int => match s with
 | a =>
 (ifb (decide (a < (l.length : Int)))
 (bnd (idx l a) fun b =>
 bnd (ZSj b g) fun c =>
 ifb (c)
 (some (.inr ((.inl a))))
 (bnd (chk .i64 (a + ((1 : Int)))) fun d =>
 some (.inl d)))
 (some (.inr ((.inr (()))))))) Zia ((0 : Int)))
 (fun (p : (Int) ⊕ (Unit)) => match p with
 | .inl e =>
 (some ((.inr e)))
 | .inr (()) =>
 (some ((.inl (()))))))
 (fun (p : (Unit) ⊕ (Int)) => match p with
 | .inl (()) =>
 (some ((-1 : Int)))
 | .inr f =>
 (some f))
noncomputable def ZPi (t : (Rat × (List Rat))) (x : Rat) : Option (Int) :=
 bnd (ZEh x t.1) fun b =>
 bnd (Zuj t.2 b.1) fun a =>
 ifb (decide (a < (0 : Int)))
 (some ((t.2.length : Int)))
 (some a)
noncomputable def ZUi (t : (Rat × (List Rat))) (x : Rat) : Option (Int × Int) :=
 bnd (ZTj ((t.1, t.2))) fun a =>
 ifb (a != ((0 : Int)))
 (some (((0 : Int), a)))
 (bnd (ZPi ((t.1, t.2)) x) fun b =>
 some ((b, (0 : Int))))
noncomputable def ZBj (d : ((Int × Int) × (Int × Int) × (Int × Int))) : Option ((Rat × Rat × Rat) × (Rat × Rat × Rat)) :=
 bnd (Zld ((d.1.1, d.1.2))) fun a =>
 bnd (Zld ((d.2.1.1, d.2.1.2))) fun b =>
 bnd (Zld ((d.2.2.1, d.2.2.2))) fun c =>
 bnd (Zsd ((d.1.1, d.1.2))) fun e =>
 bnd (Zsd ((d.2.1.1, d.2.1.2))) fun f =>
 bnd (Zsd ((d.2.2.1, d.2.2.2))) fun g =>
 some (((a, b, c), (e, f, g)))
noncomputable def ZEd (x : Rat) (y : Rat) : Option (Rat) :=
 bnd (ZCd x y) fun a =>
 some a.1
noncomputable def Zlc (n : Int) : Option (Rat) :=
 bnd (Zgd n) fun a =>
 some a
noncomputable def ZZi (d : (Rat × Rat × Rat)) : Option (Bool) :=
 bnd (Zfe ([d.1, d.2.1, d.2.2])) fun a =>
 some a
noncomputable def ZNj (d : (Rat × Rat × Rat)) (x : Rat) (y : Rat) : Option (Rat × Int) :=
 bnd (ZZi ((d.1, d.2.1, d.2.2))) fun a =>
 ifb (!(a))
 (some (((0 : Rat), (1 : Int))))
 (bnd (ZBc x y) fun b =>
 bnd (Zlc ((1 : Int))) fun c =>
 bnd (ZEd d.2.1 d.1) fun e =>
 bnd (Zwc c e) fun f =>
 bnd (Znc b f) fun g =>
 some ((g, (0 : Int))))
noncomputable def ZFi (i : Int) (k : Int) : Option (Rat) :=
 ifb (i == k)
 (bnd (Zlc ((1 : Int))) fun a =>
 some a)
 (some ((0 : Rat)))
noncomputable def Z0i (t : (List (List Int))) (n : Int) (g : Unit) : Option (Rat × Rat) :=
 bnd (bnd (mk 8 ((t.length : Int)) ((t.length : Int))) fun an =>
 bnd (mk 8 ((t.length : Int)) ((t.length : Int))) fun ao =>
 some (((List.replicate ((t.length : Int)).toNat ((0 : Int))), (List.replicate ((t.length : Int)).toNat ((0 : Int))))))
 (fun (p : (List Int) × (List Int)) => match p with
 | (u, v) =>
 (bnd (bnd (Z4 (fun s : (List Int) × (List Int) × Int => match s with
 | (h, i, a) =>
 (ifb (decide (a < (t.length : Int)))
 (bnd (idx t a) fun j =>
 bnd (bnd (Z4 (fun s : (List Int) × (List Int) × Int => match s with
 | (e, f, b) =>
 (ifb (decide (b < (j.length : Int)))
 (bnd (idx j b) fun k =>
 bnd (idx e a) fun w =>
 bnd (chk .i64 (w + k)) fun x =>
 bnd (idx e a) fun ap =>
 bnd (idx f b) fun y =>
 bnd (chk .i64 (y + k)) fun z =>
 bnd (idx f b) fun aq =>
 bnd (chk .i64 (b + ((1 : Int)))) fun A =>
 some (.inl (((e.set (a).toNat x), (f.set (b).toNat z), A))))
 (some (.inr ((e, f)))))) Zia ((h, i, (0 : Int))))
 (fun (p : (List Int) × (List Int)) => match p with
 | (B, C) =>
 (some ((B, C)))))
 (fun (p : (List Int) × (List Int)) => match p with
 | (D, E) =>
 (bnd (chk .i64 (a + ((1 : Int)))) fun F =>
 some (.inl ((D, E, F))))))
 (some (.inr ((h, i)))))) Zia ((u, v, (0 : Int))))
 (fun (p : (List Int) × (List Int)) => match p with
 | (G, H) =>
 (some ((G, H)))))
 (fun (p : (List Int) × (List Int)) => match p with
 | (I, J) =>
 (bnd (bnd (Z4 (fun s : Rat × Rat × Int => match s with
 | (l, m, c) =>
 (ifb (decide (c < (t.length : Int)))
 (bnd (idx t c) fun o =>
 bnd (bnd (Z4 (fun s : Rat × Rat × Int => match s with
 | (q, r, d) =>
 (ifb (decide (d < (o.length : Int)))
 (bnd (idx o d) fun K =>
 bnd (ZFi c d) fun L =>
 bnd (Zlc K) fun M =>
 bnd (Znc L M) fun N =>
 bnd (Zwc q N) fun O =>
 bnd (ZFi c d) fun P =>
 bnd (idx I c) fun Q =>
 bnd (Zlc Q) fun R =>
 bnd (Znc P R) fun S =>
 bnd (idx J d) fun T =>
 bnd (Zlc T) fun U =>
 bnd (Znc S U) fun V =>
 bnd (Zwc r V) fun W =>
 bnd (chk .i64 (d + ((1 : Int)))) fun X =>
 some (.inl ((O, W, X))))
 (some (.inr ((q, r)))))) Zia ((l, m, (0 : Int))))
 (fun (p : Rat × Rat) => match p with
 | (Y, Z) =>
 (some ((Y, Z)))))
 (fun (p : Rat × Rat) => match p with
 | (aa, ab) =>
 (bnd (chk .i64 (c + ((1 : Int)))) fun ac =>
 some (.inl ((aa, ab, ac))))))
 (some (.inr ((l, m)))))) Zia (((0 : Rat), (0 : Rat), (0 : Int))))
 (fun (p : Rat × Rat) => match p with
 | (ad, ae) =>
 (some ((ad, ae)))))
 (fun (p : Rat × Rat) => match p with
 | (af, ag) =>
 (bnd (Zlc n) fun ah =>
 bnd (ZEd af ah) fun ai =>
 bnd (Zlc n) fun aj =>
 bnd (Zlc n) fun ak =>
 bnd (Znc aj ak) fun al =>
 bnd (ZEd ag al) fun am =>
 some ((ai, am))))))))
noncomputable def ZCj (r : (List Int)) (t : (List (List Int))) : Option (Bool) :=
 some (((r.length : Int)) != ((t.length : Int)))
noncomputable def Z4j (l : (List (List Int))) (g : (List (List Int))) : Option (Int) :=
 bnd (bnd (Z4 (fun s : Int => match s with
 | a =>
 (ifb (decide (a < (l.length : Int)))
 (bnd (idx l a) fun b =>
 bnd (ZCj b g) fun c =>
 ifb (c)
 (some (.inr ((.inl a))))
 (bnd (chk .i64 (a + ((1 : Int)))) fun d =>
 some (.inl d)))
 (some (.inr ((.inr (()))))))) Zia ((0 : Int)))
 (fun (p : (Int) ⊕ (Unit)) => match p with
 | .inl e =>
 (some ((.inr e)))
 | .inr (()) =>
 (some ((.inl (()))))))
 (fun (p : (Unit) ⊕ (Int)) => match p with
 | .inl (()) =>
 (some ((-1 : Int)))
 | .inr f =>
 (some f))
noncomputable def Zyj (l : (List (List Int))) (g : (List (List Int))) : Option (Bool) :=
 bnd (Z4j l g) fun a =>
 some (decide ((0 : Int) ≤ a))
noncomputable def ZWj (t : (List (List Int))) : Option (Int × Int) :=
 bnd (ifb (((t.length : Int)) == ((0 : Int)))
 (some ((t, true)))
 (ifb (decide ((8 : Int) < (t.length : Int)))
 (some ((t, true)))
 (bnd (Zyj t t) fun i =>
 some ((t, i)))))
 (fun (p : (List (List Int)) × Bool) => match p with
 | (d, j) =>
 (ifb (j)
 (some (((0 : Int), (4 : Int))))
 (bnd (bnd (Z4 (fun s : Int × Int => match s with
 | (e, a) =>
 (ifb (decide (a < (d.length : Int)))
 (bnd (idx d a) fun f =>
 bnd (bnd (Z4 (fun s : Int × Int => match s with
 | (g, b) =>
 (ifb (decide (b < (f.length : Int)))
 (bnd (idx f b) fun c =>
 bnd (ifb (decide (c < (0 : Int)))
 (some true)
 (some (decide ((1000000 : Int) < c))))
 (fun (k : Bool) =>
 (ifb (k)
 (some (.inr ((.inl (((0 : Int), (1 : Int)))))))
 (bnd (chk .i64 (g + c)) fun l =>
 bnd (chk .i64 (b + ((1 : Int)))) fun m =>
 some (.inl ((l, m)))))))
 (some (.inr ((.inr g)))))) Zia ((e, (0 : Int))))
 (fun (p : (Int × Int) ⊕ (Int)) => match p with
 | .inl ((n, o)) =>
 (some ((.inr ((n, o)))))
 | .inr q =>
 (some ((.inl q)))))
 (fun (p : (Int) ⊕ (Int × Int)) => match p with
 | .inl r =>
 (bnd (chk .i64 (a + ((1 : Int)))) fun u =>
 some (.inl ((r, u))))
 | .inr ((v, w)) =>
 (some (.inr ((.inl ((v, w))))))))
 (some (.inr ((.inr e)))))) Zia (((0 : Int), (0 : Int))))
 (fun (p : (Int × Int) ⊕ (Int)) => match p with
 | .inl ((x, y)) =>
 (some ((.inr ((x, y)))))
 | .inr z =>
 (some ((.inl z)))))
 (fun (p : (Int) ⊕ (Int × Int)) => match p with
 | .inl h =>
 (ifb (h == ((0 : Int)))
 (some (((0 : Int), (3 : Int))))
 (some ((h, (0 : Int)))))
 | .inr ((A, B)) =>
 (some ((A, B)))))))
noncomputable def Zkj (t : (List (List Int))) (g : Unit) : Option (Rat × Int) :=
 bnd (ZWj t) fun a =>
 ifb (a.2 != ((0 : Int)))
 (some (((0 : Rat), a.2)))
 (bnd (Z0i t a.1 (())) fun b =>
 bnd (bnd (ZBc b.1 b.2) fun d =>
 bnd (Zlc ((1 : Int))) fun e =>
 bnd (ZBc e b.2) fun f =>
 bnd (ZCd d f) fun c =>
 some ((c.2, c.1)))
 (fun (p : Int × Rat) => match p with
 | (h, i) =>
 (ifb (h != ((0 : Int)))
 (some (((0 : Rat), (5 : Int))))
 (some ((i, (0 : Int)))))))
noncomputable def Z8j (t : (List (List Int))) : Option (Rat × Int) :=
 bnd (Zkj t (())) fun a =>
 some ((a.1, a.2))
noncomputable def Z1i (l : (List (Int × Int))) : Option ((List Rat) × (List Rat)) :=
 bnd (bnd (Z4 (fun s : (List Rat) × (List Rat) × Int => match s with
 | (b, c, d) =>
 (ifb (decide (d < (l.length : Int)))
 (bnd (idx l d) fun a =>
 bnd (Zld ((a.1, a.2))) fun e =>
 bnd (ZZa 56 (b ++ [e])) fun m =>
 bnd (Zsd ((a.1, a.2))) fun f =>
 bnd (ZZa 56 (c ++ [f])) fun n =>
 bnd (chk .i64 (d + ((1 : Int)))) fun g =>
 some (.inl (((b ++ [e]), (c ++ [f]), g))))
 (some (.inr ((b, c)))))) Zia ((([] : (List Rat)), ([] : (List Rat)), (0 : Int))))
 (fun (p : (List Rat) × (List Rat)) => match p with
 | (h, i) =>
 (some ((h, i)))))
 (fun (p : (List Rat) × (List Rat)) => match p with
 | (j, k) =>
 (some ((j, k))))
noncomputable def ZTi (step : (Int × Int)) (limits : (List (Int × Int))) : Option ((Rat × (List Rat)) × (Rat × (List Rat))) :=
 bnd (Z1i limits) fun a =>
 bnd (Zld ((step.1, step.2))) fun b =>
 bnd (Zsd ((step.1, step.2))) fun c =>
 some (((b, a.1), (c, a.2)))
noncomputable def ZMe  : Option (Bool) :=
 bnd (ZBj ((((2 : Int), (0 : Int)), ((1 : Int), (2 : Int)), ((4000 : Int), (0 : Int))))) fun a =>
 bnd (bnd (Zgd ((48 : Int))) fun f =>
 bnd (Zgd ((8 : Int))) fun g =>
 bnd (ZNj ((a.1.1, a.1.2.1, a.1.2.2)) f g) fun b =>
 some ((b.1, b.2)))
 (fun (p : Rat × Int) => match p with
 | (h, i) =>
 (bnd (Z8j ([[(20 : Int), (5 : Int)], [(10 : Int), (15 : Int)]])) fun c =>
 bnd (ZTi (((1 : Int), (10 : Int))) ([((1 : Int), (0 : Int)), ((2 : Int), (0 : Int))])) fun d =>
 bnd (Zld (((206 : Int), (100 : Int)))) fun j =>
 bnd (ZUi ((d.1.1, d.1.2)) j) fun e =>
 bnd (ifb (i == ((0 : Int)))
 (ifb (c.2 == ((0 : Int)))
 (ifb (e.2 == ((0 : Int)))
 (bnd (ZLd h) fun k =>
 ifb (k == (([53, 48] : List UInt8)))
 (bnd (ZLd c.1) fun l =>
 ifb (l == (([50, 47, 53] : List UInt8)))
 (some (e.1 == ((2 : Int))))
 (some false))
 (some false))
 (some false))
 (some false))
 (some false))
 (fun (m : Bool) =>
 (some m))))
theorem num_pos {q : Rat} : 0 < q.num ↔ 0 < q := by
  have h1 := Rat.num_nonneg (q := q); have h2 := Rat.num_eq_zero (q := q); constructor
  · intro h; have h3 : 0 ≤ q := h1.1 (by omega); have h4 : q ≠ 0 := fun e => by have := h2.2 e; omega
    grind
  · intro h; have h3 : 0 ≤ q.num := h1.2 (by grind); have h4 : q.num ≠ 0 := fun e => by have := h2.1 e; grind
    omega
theorem Z7p {q : Rat} : (0 < q.num.sign) ↔ 0 < q := by
  rw [← num_pos]; rcases Int.lt_trichotomy q.num 0 with h | h | h
  · rw [Int.sign_eq_neg_one_of_neg h]; omega
  · rw [h]; simp
  · rw [Int.sign_eq_one_of_pos h]; omega
theorem Zyi {q : Rat} : (q.num.sign ≤ 0) ↔ q ≤ 0 := by
  have h := Z7p (q := q); constructor
  · intro h1; rcases Rat.le_total (a := q) (b := 0) with h2 | h2
    · exact h2
    · by_cases h3 : q = 0
      · grind
      · have := h.2 (by grind); omega
  · intro h1; rcases Int.lt_or_le 0 q.num.sign with h2 | h2
    · have := h.1 h2; grind
    · exact h2
def sz (k : Nat) (x : Rat) : Prop := bl x.num.natAbs ≤ k ∧ bl x.den ≤ k
theorem sz.mono {k m : Nat} {x : Rat} (h : sz k x) (hk : k ≤ m) : sz m x := ⟨by have := h.1; omega, by have := h.2; omega⟩
theorem sz.ok {k : Nat} {x : Rat} (h : sz k x) (hk : k ≤ 1099511627776) : okQ x := ⟨by have := h.1; omega, by have := h.2; omega⟩
theorem sz.sm {k : Nat} {x : Rat} (h : sz k x) (hk : k ≤ 68719476736) : smQ x := ⟨by have := h.1; omega, by have := h.2; omega⟩
theorem Zbh {k m : Nat} {x y : Rat} (h : sz k x) (h' : sz m y) : sz (k + m + 1) (x + y) := by
  have := Z5l x y; obtain ⟨a, b⟩ := h; obtain ⟨c, d⟩ := h'; exact ⟨by omega, by omega⟩
theorem ZGg {k m : Nat} {x y : Rat} (h : sz k x) (h' : sz m y) : sz (k + m + 1) (x - y) := by
  have := Zal x y; obtain ⟨a, b⟩ := h; obtain ⟨c, d⟩ := h'; exact ⟨by omega, by omega⟩
theorem Zpf {k m : Nat} {x y : Rat} (h : sz k x) (h' : sz m y) : sz (k + m) (x * y) := by
  have := ZZo x y; obtain ⟨a, b⟩ := h; obtain ⟨c, d⟩ := h'; exact ⟨by omega, by omega⟩
theorem ZUd {k m : Nat} {x y : Rat} (h : sz k x) (h' : sz m y) : sz (k + m + 1) (x / y) := by
  have := Zfl (x := x) (y := y); obtain ⟨a, b⟩ := h; obtain ⟨c, d⟩ := h'; exact ⟨by omega, by omega⟩
theorem Z0c {n : Int} (h : -9223372036854775808 ≤ n ∧ n ≤ 9223372036854775807) : sz 64 (n : Rat) := by
  have h2 := Z3j n; have h3 : bl n.natAbs ≤ 64 := Zkc (show n.natAbs < 2 ^ 64 by omega); exact ⟨by omega, by omega⟩
def i64 (r : Int × Int) : Prop := (-9223372036854775808 ≤ r.1 ∧ r.1 ≤ 9223372036854775807) ∧ (-9223372036854775808 ≤ r.2 ∧ r.2 ≤ 9223372036854775807)
theorem Z0o {r : Int × Int} (h : i64 r) : sz 64 (ZTd r) := by
  unfold ZTd; by_cases h0 : r.2 = 0
  · rw [if_pos h0]; exact Z0c h.1
  · rw [if_neg h0, Zah]; obtain ⟨⟨a, b⟩, c, d⟩ := h; rcases Zth (if r.2 < 0 then -r.1 else r.1) r.2.natAbs with ⟨h1, h2⟩ | h1
    · have h3 : bl (if r.2 < 0 then -r.1 else r.1).natAbs ≤ 64 := Zkc (show _ < 2 ^ 64 by split <;> omega); have h4 : bl r.2.natAbs ≤ 64 := Zkc (show _ < 2 ^ 64 by omega); exact ⟨by omega, by omega⟩
    · omega
theorem Zdk {k m : Nat} {x y : Rat} (h : sz k x) (h' : sz m y) (hk : k + m ≤ 1000000000) : Zwc x y = some (x + y) := by unfold Zwc; rw [if_pos ⟨h.ok (by omega), h'.ok (by omega)⟩]
theorem qsub_ok {k m : Nat} {x y : Rat} (h : sz k x) (h' : sz m y) (hk : k + m ≤ 1000000000) : ZBc x y = some (x - y) := by unfold ZBc; rw [if_pos ⟨h.ok (by omega), h'.ok (by omega)⟩]
theorem qmul_ok {k m : Nat} {x y : Rat} (h : sz k x) (h' : sz m y) (hk : k + m ≤ 1000000000) : Znc x y = some (x * y) := by unfold Znc; rw [if_pos ⟨h.ok (by omega), h'.ok (by omega)⟩]
theorem qdiv_ok {k m : Nat} {x y : Rat} (h : sz k x) (h' : sz m y) (hk : k + m ≤ 1000000000) (hy : y ≠ 0) : ZCd x y = some (x / y, 0) := by unfold ZCd; rw [if_pos ⟨h.ok (by omega), h'.ok (by omega)⟩, if_neg hy]
def decG : Nat → Nat → List UInt8
  | 0, _ => []
  | k + 1, n => if n = 0 then [] else decG k (n / 10) ++ [UInt8.ofNat (48 + n % 10)]
theorem ZYj : ∀ (k n : Nat), n ≤ k → decG k n = ZBa n
  | 0, n, h => by
    have : n = 0 := by omega
    subst this; rw [ZXc]; rfl
  | k + 1, n, h => by
    by_cases h0 : n = 0
    · subst h0; rw [ZXc]; rfl
    · rw [Zce h0, decG, if_neg h0, ZYj k (n / 10) (by omega)]
def txtG (x : Rat) : List UInt8 := (if x.num < 0 then [45] else []) ++ (if x.num.natAbs = 0 then [48] else decG x.num.natAbs x.num.natAbs) ++ (if x.den = 1 then [] else 47 :: (if x.den = 0 then [48] else decG x.den x.den))
theorem txtG_eq : txtG = txtQ := by
  funext x
  unfold txtG txtQ Zsb; rw [ZYj _ _ (Nat.le_refl _), ZYj _ _ (Nat.le_refl _)]
def Zpk (x : Rat) : Option (List UInt8) := if okQ x then some (txtG x) else none
theorem Zuo : ZLd = Zpk := by
  funext x
  unfold ZLd Zpk; rw [txtG_eq]
set_option maxRecDepth 100000 in
theorem Z1p : ZMe = some true := by
  unfold ZMe; rw [Zuo]; decide +kernel
theorem Zab {α β : Type} {x : Option α} {y : α} {f : α → Option β} {z : Option β} (h : x = some y) (h2 : f y = z) : bnd x f = z := by subst h; rw [Ze]; exact h2
theorem ZVc {S R : Type} {body : S → Option (S ⊕ R)} {s : S} {r : R} (st : Nat → S) (n : Nat) (h0 : st 0 = s) (hn : n < 2 ^ 64) (h : ∀ k, k < n → body (st k) = some (.inl (st (k + 1)))) (he : body (st n) = some (.inr r)) : Z4 body Zia s = some r := by
  have key : ∀ m f k, k + m = n → m < f → Z4 body f (st k) = some r := by
    intro m
    induction m with
    | zero =>
      intro f k hk hf; obtain ⟨f, rfl⟩ : ∃ g, f = g + 1 := ⟨f - 1, by omega⟩; obtain rfl : k = n := by omega
      unfold Z4; rw [he, Ze]
    | succ m ih =>
      intro f k hk hf; obtain ⟨f, rfl⟩ : ∃ g, f = g + 1 := ⟨f - 1, by omega⟩; unfold Z4; rw [h k (by omega), Ze]; exact ih f (k + 1) (by omega) (by omega)
  rw [← h0]; exact key n Zia 0 (by omega) (ZLa (by omega))
def bad (x : Int) : Bool := decide (x < 0) || decide (1000000 < x)
theorem not_bad {x : Int} (h : bad x = false) : 0 ≤ x ∧ x ≤ 1000000 := by
  unfold bad at h; simp at h; omega
theorem ZVo {l : List Int} (h : l.any bad = false) : ∀ j, (hj : j < l.length) → bad l[j] = false := fun j hj => by
  rw [List.any_eq_false] at h
  simpa using h l[j] (List.getElem_mem hj)
def okT (t : List (List Int)) : Bool := !(t.length == 0 || decide (8 < t.length) || t.any fun r => (r.length : Int) != (t.length : Int))
theorem Zyk {α : Type} {p : α → Bool} {l : List α} (h : l.any p = true) : ∃ m, ∃ hm : m < l.length, p l[m] = true ∧ ∀ j, (h : j < l.length) → j < m → p l[j] = false := by
  have hm : l.findIdx p < l.length := List.findIdx_lt_length.2 (List.any_eq_true.1 h); exact ⟨l.findIdx p, hm, List.findIdx_getElem, fun j hj hjm => by
    have := List.not_of_lt_findIdx hjm
    simpa using this⟩
theorem ZIi {α : Type} {p : α → Bool} {l : List α} (h : l.any p = false) : ∀ j, (hj : j < l.length) → p l[j] = false := fun j hj => by
  rw [List.any_eq_false] at h
  simpa using h l[j] (List.getElem_mem hj)
theorem Z4p {t : List (List Int)} (h : okT t = true) : 0 < t.length ∧ t.length ≤ 8 ∧ ∀ r ∈ t, r.length = t.length := by
  unfold okT at h; simp at h; obtain ⟨⟨h1, h2⟩, h3⟩ := h; refine ⟨?_, by omega, fun r hr => by have := h3 r hr; omega⟩
  cases t with
  | nil => simp at h1
  | cons a l => simp
theorem Z0m (l : List Rat) (hl : l.length ≤ 4611686018427387904) : ZHg l () = some (l.any fun x => decide (x.num.sign ≤ 0)) := by
  unfold ZHg ZOh ZHi Z5d; rw [ZQa, ZQa]; refine Z3a (fun s : Int => ∃ k : Nat, s = (k : Int) ∧ k ≤ l.length ∧ (l.take k).any (fun x => decide (x.num.sign ≤ 0)) = false) (fun s => l.length - s.toNat)
      (fun r : Int ⊕ Unit => (∃ k : Nat, r = .inl (k : Int) ∧ l.any (fun x => decide (x.num.sign ≤ 0)) = true) ∨ r = .inr () ∧ l.any (fun x => decide (x.num.sign ≤ 0)) = false) ⟨0, rfl, by omega, rfl⟩ (ZLa (by simp; omega)) ?_ ?_
  · rintro s ⟨k, rfl, hk, ha⟩; simp only; by_cases h : k < l.length
    · rw [decide_eq_true (by omega), ZK, Z3 h, Ze, Ze, Ze]; by_cases h2 : l[k].num.sign ≤ 0
      · right; rw [decide_eq_true h2, ZK]; exact ⟨_, rfl, .inl ⟨k, rfl, List.any_eq_true.2 ⟨l[k], List.getElem_mem h, decide_eq_true h2⟩⟩⟩
      · left; rw [decide_eq_false h2, ZH, Zea (by omega) (by omega), Ze]; refine ⟨_, rfl, ⟨k + 1, by simp, by omega, ?_⟩, by simp; omega⟩; rw [List.take_succ_eq_append_getElem h, List.any_append, ha]; simp only [List.any_cons, List.any_nil, Bool.or_false, Bool.false_or]; exact decide_eq_false h2
    · right; rw [decide_eq_false (by omega), ZH]; rw [List.take_of_length_le (by omega)] at ha; exact ⟨_, rfl, .inr ⟨rfl, ha⟩⟩
  · rintro r (⟨k, rfl, h⟩ | ⟨rfl, h⟩)
    · rw [h]; simp only [Ze]; exact congrArg some (decide_eq_true (by omega))
    · rw [h]; rfl
theorem Zap (l : List Rat) (hl : l.length ≤ 4611686018427387904) : Zfe l = some (l.all fun x => decide (0 < x)) := by
  unfold Zfe; rw [Z0m l hl, Ze, List.not_any_eq_all_not]; congr 2
  funext x
  rw [Bool.eq_iff_iff]; simp only [Bool.not_eq_true', decide_eq_false_iff_not, decide_eq_true_iff, Zyi]; grind
theorem ZVj {k m : Nat} {x y : Rat} (h : sz k x) (h' : sz m y) (hk : k + m ≤ 1000000000) (hy : y ≠ 0) : ZEd x y = some (x / y) := by
  unfold ZEd; rw [qdiv_ok h h' hk hy, Ze]
theorem Zqj (n : Int) : Zlc n = some (n : Rat) := by unfold Zlc Zgd; rw [Ze]
noncomputable def ZNf  : Option (Rat) :=
 bnd (ZIc ((0 : Int))) fun a =>
 some a
def ent (t : List (List Int)) (i k : Nat) : Int := (t.getD i []).getD k 0
def upd (l : List Int) (i : Nat) (x : Int) : List Int := l.set i (l.getD i 0 + x)
theorem Zdb {α : Type} {l : List α} {i : Nat} {d : α} (h : i < l.length) : l.getD i d = l[i] := by rw [List.getD_eq_getElem?_getD, List.getElem?_eq_getElem h]; rfl
theorem ent_get {t : List (List Int)} {i k : Nat} (h : i < t.length) (h' : k < t[i].length) : ent t i k = t[i][k] := by unfold ent; rw [Zdb h, Zdb h']
def rcF (t : List (List Int)) (i k : Nat) (p : List Int × List Int) : List Int × List Int := (upd p.1 i (ent t i k), upd p.2 k (ent t i k))
def RC (n : Nat) (B : Int) (p : List Int × List Int) : Prop := p.1.length = n ∧ p.2.length = n ∧ (∀ x ∈ p.1, 0 ≤ x ∧ x ≤ B) ∧ (∀ x ∈ p.2, 0 ≤ x ∧ x ≤ B)
theorem RC.at1 {n : Nat} {B : Int} {p : List Int × List Int} (h : RC n B p) {i : Nat} (hi : i < n) : ∃ hh : i < p.1.length, 0 ≤ p.1[i] ∧ p.1[i] ≤ B ∧ p.1.getD i 0 = p.1[i] := by
  have h1 : i < p.1.length := by rw [h.1]; exact hi
  exact ⟨h1, (h.2.2.1 _ (List.getElem_mem h1)).1, (h.2.2.1 _ (List.getElem_mem h1)).2, Zdb h1⟩
theorem RC.at2 {n : Nat} {B : Int} {p : List Int × List Int} (h : RC n B p) {i : Nat} (hi : i < n) : ∃ hh : i < p.2.length, 0 ≤ p.2[i] ∧ p.2[i] ≤ B ∧ p.2.getD i 0 = p.2[i] := by
  have h1 : i < p.2.length := by rw [h.2.1]; exact hi
  exact ⟨h1, (h.2.2.2 _ (List.getElem_mem h1)).1, (h.2.2.2 _ (List.getElem_mem h1)).2, Zdb h1⟩
theorem ZEk {l : List Int} {i : Nat} {x B : Int} (hx : 0 ≤ x ∧ x ≤ 1000000) (hi : i < l.length) (h : ∀ y ∈ l, 0 ≤ y ∧ y ≤ B) : ∀ y ∈ upd l i x, 0 ≤ y ∧ y ≤ B + 1000000 := by
  intro y hy; unfold upd at hy; have h2 := h _ (List.getElem_mem hi); rcases List.mem_or_eq_of_mem_set hy with h1 | h1
  · have := h y h1; omega
  · rw [Zdb hi] at h1; omega
structure Good (t : List (List Int)) : Prop where
  n0 : 0 < t.length
  n8 : t.length ≤ 8
  sq : ∀ i, (h : i < t.length) → t[i].length = t.length
  ok : ∀ i k, i < t.length → k < t.length → 0 ≤ ent t i k ∧ ent t i k ≤ 1000000
theorem Good.of {t : List (List Int)} (h1 : okT t = true) (h2 : t.any (·.any bad) = false) : Good t := by
  obtain ⟨a, b, c⟩ := Z4p h1; refine ⟨a, b, fun i h => c _ (List.getElem_mem h), fun i k hi hk => ?_⟩; have hk' : k < t[i].length := by rw [c _ (List.getElem_mem hi)]; exact hk
  rw [ent_get hi hk']; exact not_bad (ZVo (ZIi h2 i hi) k hk')
theorem RC.step {t : List (List Int)} (g : Good t) {B : Int} {p : List Int × List Int} {i k : Nat} (hi : i < t.length) (hk : k < t.length) (h : RC t.length B p) : RC t.length (B + 1000000) (rcF t i k p) :=
  ⟨by simp [rcF, upd, h.1], by simp [rcF, upd, h.2.1], ZEk (g.ok i k hi hk) (by rw [h.1]; exact hi) h.2.2.1, ZEk (g.ok i k hi hk) (by rw [h.2.1]; exact hk) h.2.2.2⟩
theorem RC.mono {n : Nat} {B C : Int} {p : List Int × List Int} (h : RC n B p) (hB : B ≤ C) : RC n C p :=
  ⟨h.1, h.2.1, fun x hx => by have := h.2.2.1 x hx; omega, fun x hx => by have := h.2.2.2 x hx; omega⟩
def pqF (t : List (List Int)) (w : Nat → Nat → Rat) (p : List Int × List Int) (i k : Nat) (s : Rat × Rat) : Rat × Rat :=
  (s.1 + w i k * ((ent t i k : Int) : Rat), s.2 + w i k * ((p.1.getD i 0 : Int) : Rat) * ((p.2.getD k 0 : Int) : Rat))
def SZ (k : Nat) (s : Rat × Rat) : Prop := sz k s.1 ∧ sz k s.2
theorem SZ.mono {k m : Nat} {s : Rat × Rat} (h : SZ k s) (hk : k ≤ m) : SZ m s := ⟨h.1.mono hk, h.2.mono hk⟩
theorem ZKl : sz 1 (0 : Rat) := by constructor <;> decide
section
variable {t : List (List Int)} {w : Nat → Nat → Rat} {p : List Int × List Int}
theorem SZ.step (g : Good t) (hw : ∀ i k, i < t.length → k < t.length → sz 200 (w i k)) (hp : RC t.length 64000000 p) {i k c : Nat} {s : Rat × Rat} (hi : i < t.length) (hk : k < t.length) (h : SZ c s) : SZ (c + 400) (pqF t w p i k s) := by
  have e := g.ok i k hi hk; obtain ⟨_, a1, a2, a3⟩ := hp.at1 hi; obtain ⟨_, b1, b2, b3⟩ := hp.at2 hk; refine ⟨(Zbh h.1 (Zpf (hw i k hi hk) (Z0c (n := ent t i k) (by omega)))).mono (by omega), (Zbh h.2 (Zpf (Zpf (hw i k hi hk) (Z0c (n := p.1.getD i 0) (by omega))) (Z0c (n := p.2.getD k 0) (by omega)))).mono (by omega)⟩
end
set_option maxRecDepth 100000
noncomputable def Zeg (x : Rat) : Option (Rat) :=
 bnd (Zgc x) fun a =>
 bnd (ZSb (!(decide (x.num < 0))) x.num.natAbs a) fun b =>
 some b
noncomputable def Z6f (x : Rat) (y : Rat) : Option (Rat) :=
 bnd (Zgc x) fun a =>
 bnd (Zgc y) fun b =>
 bnd (Z4a x.num.natAbs b) fun c =>
 bnd (Z4a y.num.natAbs a) fun d =>
 ifb ((decide (x.num < 0)) == (decide (y.num < 0)))
 (bnd (Z8e c d) fun e =>
 bnd (Z4a a b) fun f =>
 bnd (ZSb (decide (x.num < 0)) e f) fun g =>
 some g)
 (bnd (Zhd c d) fun h =>
 ifb (decide ((0 : Int) ≤ h))
 (bnd (Zvc c d) fun i =>
 bnd (Z4a a b) fun j =>
 bnd (ZSb (decide (x.num < 0)) i j) fun k =>
 some k)
 (bnd (Zvc d c) fun l =>
 bnd (Z4a a b) fun m =>
 bnd (ZSb (decide (y.num < 0)) l m) fun n =>
 some n))
noncomputable def Zki (x : Rat) (y : Rat) : Option (Rat) :=
 bnd (Z0g y) fun a =>
 bnd (Z2d x a) fun b =>
 some b
noncomputable def Z9g (x : Rat) (y : Rat) : Option (Rat) :=
 bnd (Z4a x.num.natAbs y.num.natAbs) fun a =>
 bnd (Zgc x) fun b =>
 bnd (Zgc y) fun c =>
 bnd (Z4a b c) fun d =>
 bnd (ZSb ((decide (x.num < 0)) != (decide (y.num < 0))) a d) fun e =>
 some e
noncomputable def ZQh (x : Rat) (y : Rat) : Option (Rat × Int) :=
 bnd (Zud y) fun a =>
 ifb (a)
 (bnd (ZIc ((0 : Int))) fun b =>
 some ((b, (3 : Int))))
 (bnd (Zgc y) fun c =>
 bnd (Z4a x.num.natAbs c) fun d =>
 bnd (Zgc x) fun e =>
 bnd (Z4a e y.num.natAbs) fun f =>
 bnd (ZSb ((decide (x.num < 0)) != (decide (y.num < 0))) d f) fun g =>
 some ((g, (0 : Int))))
noncomputable def Zni (x : Rat) (y : Rat) : Option (Rat) :=
 bnd (Zlg x y) fun a =>
 some a.1
noncomputable def Zoi (x : Rat) : Option ((List UInt8)) :=
 bnd (Zof x.num.natAbs) fun b =>
 bnd (ifb (decide (x.num < 0))
 (bnd (Zud x) fun d =>
 some (!(d)))
 (some false))
 (fun (e : Bool) =>
 (bnd (ifb (e)
 (bnd (Z7b ((([45] : List UInt8)) ++ b)) fun j =>
 some (((([45] : List UInt8)) ++ b)))
 (some b))
 (fun (a : (List UInt8)) =>
 (bnd (Zgc x) fun f =>
 bnd (ZCc ([(1 : Int)])) fun g =>
 bnd (Zhd f g) fun h =>
 bnd (ifb (decide ((0 : Int) < h))
 (bnd (Z7b (a ++ (([47] : List UInt8)))) fun k =>
 bnd (Zof x.den) fun c =>
 bnd (Z7b (((a ++ (([47] : List UInt8)))) ++ c)) fun l =>
 some ((((a ++ (([47] : List UInt8)))) ++ c)))
 (some a))
 (fun (i : (List UInt8)) =>
 (some i))))))
theorem Zkd {n : Nat} (h : bl n ≤ 1099511627776) : Z2a n := Znk (by omega)
theorem Z1b {n : Nat} (h : bl n ≤ 1099511627776) : ZHa n := by have := Zkd h; unfold Z2a at this; unfold ZHa; omega
theorem rneg_eq {x : Rat} (h : okQ x) : Zeg x = some (-x) := by
  obtain ⟨h1, h2⟩ := h; unfold Zeg Zgc ZSb; rw [Ze, if_pos ⟨Zkd h1, Zkd h2, x.den_nz⟩, Ze]; congr 1; have e : sgn (!(decide (x.num < 0))) x.num.natAbs = -x.num := by
    unfold sgn; by_cases h : x.num < 0
    · simp [h]; omega
    · simp [h]; omega
  rw [e]; exact Rat.mkRat_self (-x)
theorem ZZn {x z : Rat} (h : Z0g x = some z) : Zeg x = some z := by
  unfold Z0g at h; split at h
  · rename_i hh; rw [rneg_eq hh, h]
  · cases h
theorem radd_eq {x y : Rat} (h : smQ x) (h' : smQ y) : Z6f x y = some (x + y) := by
  obtain ⟨a1, a2⟩ := h; obtain ⟨b1, b2⟩ := h'; unfold Z6f Zgc; have p1 := Zub x.num.natAbs y.den; have p2 := Zub y.num.natAbs x.den; have p3 := Zub x.den y.den; have p4 := ZBi (x.num.natAbs * y.den) (y.num.natAbs * x.den); have hd : x.den * y.den ≠ 0 := Nat.mul_ne_zero x.den_nz y.den_nz; have e1 : Z4a x.num.natAbs y.den = some (x.num.natAbs * y.den) := by unfold Z4a; rw [if_pos ⟨Z1b (by omega), Z1b (by omega)⟩]
  have e2 : Z4a y.num.natAbs x.den = some (y.num.natAbs * x.den) := by unfold Z4a; rw [if_pos ⟨Z1b (by omega), Z1b (by omega)⟩]
  have e3 : Z4a x.den y.den = some (x.den * y.den) := by unfold Z4a; rw [if_pos ⟨Z1b (by omega), Z1b (by omega)⟩]
  have eN : ((x.num.natAbs * y.den : Nat) : Int) = (x.num.natAbs : Int) * y.den := by simp
  have eM : ((y.num.natAbs * x.den : Nat) : Int) = (y.num.natAbs : Int) * x.den := by simp
  have key : ∀ (s : Bool) (n : Nat), bl n ≤ 1099511627776 → sgn s n = x.num * y.den + y.num * x.den → ZSb s n (x.den * y.den) = some (x + y) := by
    intro s n hn he; unfold ZSb; rw [if_pos ⟨Zkd hn, Zkd (by omega), hd⟩, he, ← Rat.add_def']
  rw [Ze, Ze, e1, Ze, e2, Ze, e3]; obtain ⟨N, hN⟩ : ∃ N, N = x.num.natAbs * y.den := ⟨_, rfl⟩; obtain ⟨M, hM⟩ : ∃ M, M = y.num.natAbs * x.den := ⟨_, rfl⟩; rw [← hN] at p1 p4 eN ⊢; rw [← hM] at p2 p4 eM ⊢; have sx : x.num * (y.den : Int) = if x.num < 0 then -(N : Int) else N := by
    split
    · rw [eN, ← Int.neg_mul]; congr 1; omega
    · rw [eN]; congr 1; omega
  have sy : y.num * (x.den : Int) = if y.num < 0 then -(M : Int) else M := by
    split
    · rw [eM, ← Int.neg_mul]; congr 1; omega
    · rw [eM]; congr 1; omega
  by_cases hs : (x.num < 0) ↔ (y.num < 0)
  · have e4 : Z8e N M = some (N + M) := by unfold Z8e; rw [if_pos ⟨Z1b (by omega), Z1b (by omega)⟩]
    have e5 : ((decide (x.num < 0)) == (decide (y.num < 0))) = true := by
      by_cases h : x.num < 0
      · simp [h, hs.1 h]
      · have h2 : ¬ y.num < 0 := fun k => h (hs.2 k); simp [h, h2]
    rw [e5, ZK, e4, Ze, Ze, key _ _ (by omega) ?_, Ze]; rw [sx, sy]; unfold sgn; by_cases h : x.num < 0
    · have h2 := hs.1 h; simp [h, h2]; omega
    · have h2 : ¬ y.num < 0 := fun k => h (hs.2 k); simp [h, h2]
  · have e5 : ((decide (x.num < 0)) == (decide (y.num < 0))) = false := by
      apply beq_false_of_ne; intro h; exact hs (by by_cases k : x.num < 0 <;> by_cases k2 : y.num < 0 <;> simp_all)
    rw [e5, ZH]; unfold Zhd; rw [Ze]; by_cases hle : M ≤ N
    · have e6 : decide ((0 : Int) ≤ Z5a N M) = true := by
        unfold Z5a; rw [if_neg (by omega)]; split <;> rfl
      have e4 : Zvc N M = some (N - M) := by unfold Zvc; rw [if_pos ⟨Z1b (by omega), hle⟩]
      have hb : bl (N - M) ≤ bl N := Zbd (by omega); rw [e6, ZK, e4, Ze, Ze, key _ _ (by omega) ?_, Ze]; rw [sx, sy]; unfold sgn; by_cases h : x.num < 0
      · have h2 : ¬ y.num < 0 := fun k => hs ⟨fun _ => k, fun _ => h⟩; simp [h, h2]; omega
      · have h2 : y.num < 0 := by
          rcases Int.lt_or_le y.num 0 with k | k
          · exact k
          · exact absurd ⟨fun q => absurd q h, fun q => absurd q (by omega)⟩ hs
        simp [h, h2]; omega
    · have e6 : decide ((0 : Int) ≤ Z5a N M) = false := by
        unfold Z5a; rw [if_pos (by omega)]; rfl
      have e4 : Zvc M N = some (M - N) := by unfold Zvc; rw [if_pos ⟨Z1b (by omega), by omega⟩]
      have hb : bl (M - N) ≤ bl M := Zbd (by omega); rw [e6, ZH, e4, Ze, Ze, key _ _ (by omega) ?_, Ze]; rw [sx, sy]; unfold sgn; by_cases h : x.num < 0
      · have h2 : ¬ y.num < 0 := fun k => hs ⟨fun _ => k, fun _ => h⟩; simp [h, h2]; omega
      · have h2 : y.num < 0 := by
          rcases Int.lt_or_le y.num 0 with k | k
          · exact k
          · exact absurd ⟨fun q => absurd q h, fun q => absurd q (by omega)⟩ hs
        simp [h, h2]; omega
theorem Zfn {x y z : Rat} (h : Z2d x y = some z) : Z6f x y = some z := by
  unfold Z2d at h; split at h
  · rename_i hh; rw [radd_eq hh.1 hh.2, h]
  · cases h
theorem smQ_neg {x : Rat} (h : smQ x) : smQ (-x) := by
  unfold smQ at *; have := ZYi x; rw [this.1, this.2]; exact h
theorem smQ_ok {x : Rat} (h : smQ x) : okQ x := by unfold smQ at h; unfold okQ; omega
theorem ZMm {x y z : Rat} (h : ZHf x y = some z) : Zki x y = some z := by
  unfold ZHf at h; split at h
  · rename_i hh; unfold Zki Z0g Z2d; rw [if_pos (smQ_ok hh.2), Ze, if_pos ⟨hh.1, smQ_neg hh.2⟩, Ze, ← Rat.sub_eq_add_neg]; exact h
  · cases h
theorem ZQo {x y z : Rat} (h : Zrf x y = some z) : Z9g x y = some z := by
  unfold Zrf at h; split at h
  · rename_i hh; obtain ⟨⟨a1, a2⟩, b1, b2⟩ := hh
    cases h
    unfold Z9g Zgc; have p1 := Zub x.num.natAbs y.num.natAbs; have p3 := Zub x.den y.den; have e1 : Z4a x.num.natAbs y.num.natAbs = some (x.num.natAbs * y.num.natAbs) := by unfold Z4a; rw [if_pos ⟨Z1b (by omega), Z1b (by omega)⟩]
    have e3 : Z4a x.den y.den = some (x.den * y.den) := by unfold Z4a; rw [if_pos ⟨Z1b (by omega), Z1b (by omega)⟩]
    rw [e1, Ze, Ze, Ze, e3, Ze]; unfold ZSb; rw [if_pos ⟨Zkd (by omega), Zkd (by omega), Nat.mul_ne_zero x.den_nz y.den_nz⟩, Ze]; have e : sgn ((decide (x.num < 0)) != (decide (y.num < 0))) (x.num.natAbs * y.num.natAbs) = x.num * y.num := by
      have eN : ((x.num.natAbs * y.num.natAbs : Nat) : Int) = (x.num.natAbs : Int) * y.num.natAbs := by simp
      unfold sgn; rw [eN]; by_cases h : x.num < 0
      · have hx : (x.num.natAbs : Int) = -x.num := by omega
        by_cases h2 : y.num < 0
        · have hy : (y.num.natAbs : Int) = -y.num := by omega
          simp [h, h2, hx, hy, Int.neg_mul, Int.mul_neg]
        · have hy : (y.num.natAbs : Int) = y.num := by omega
          simp [h, h2, hx, hy, Int.neg_mul, Int.mul_neg]
      · have hx : (x.num.natAbs : Int) = x.num := by omega
        by_cases h2 : y.num < 0
        · have hy : (y.num.natAbs : Int) = -y.num := by omega
          simp [h, h2, hx, hy, Int.neg_mul, Int.mul_neg]
        · have hy : (y.num.natAbs : Int) = y.num := by omega
          simp [h, h2, hx, hy, Int.neg_mul, Int.mul_neg]
    rw [e, ← Rat.mul_def']
  · cases h
theorem Zzo {x y : Rat} {z : Rat × Int} (h : Zlg x y = some z) : ZQh x y = some z := by
  unfold Zlg at h; split at h
  · rename_i hh; obtain ⟨⟨a1, a2⟩, b1, b2⟩ := hh
    cases h
    unfold ZQh Zud; rw [Ze]; by_cases h0 : y = 0
    · subst h0; rfl
    · rw [decide_eq_false h0, ZH, if_neg h0]; unfold Zgc; have hn := ZAh h0; have p1 := Zub x.num.natAbs y.den; have p3 := Zub x.den y.num.natAbs; have e1 : Z4a x.num.natAbs y.den = some (x.num.natAbs * y.den) := by unfold Z4a; rw [if_pos ⟨Z1b (by omega), Z1b (by omega)⟩]
      have e3 : Z4a x.den y.num.natAbs = some (x.den * y.num.natAbs) := by unfold Z4a; rw [if_pos ⟨Z1b (by omega), Z1b (by omega)⟩]
      rw [Ze, e1, Ze, Ze, e3, Ze]; unfold ZSb; rw [if_pos ⟨Zkd (by omega), Zkd (by omega), Nat.mul_ne_zero x.den_nz (by omega)⟩, Ze]; have e : sgn ((decide (x.num < 0)) != (decide (y.num < 0))) (x.num.natAbs * y.den) = if y.num < 0 then -(x.num * (y.den : Int)) else x.num * (y.den : Int) := by
        have eN : ((x.num.natAbs * y.den : Nat) : Int) = (x.num.natAbs : Int) * y.den := by simp
        unfold sgn; rw [eN]; by_cases h : x.num < 0
        · have hx : (x.num.natAbs : Int) = -x.num := by omega
          by_cases h2 : y.num < 0 <;> simp [h, h2, hx, Int.neg_mul]
        · have hx : (x.num.natAbs : Int) = x.num := by omega
          by_cases h2 : y.num < 0 <;> simp [h, h2, hx, Int.neg_mul]
      rw [e, ← Z0j h0]
  · cases h
theorem rbyF_eq {x y z : Rat} (h : rbyF x y = some z) : Zni x y = some z := by
  unfold rbyF at h; split at h
  · rename_i hh
    cases h
    unfold Zni Zlg; rw [if_pos hh, Ze]; split <;> rfl
  · cases h
theorem ZBn {x : Rat} {z : List UInt8} (h : ZMg x = some z) : Zoi x = some z := by
  unfold ZMg at h; split at h
  · rename_i hh; obtain ⟨h1, h2⟩ := hh
    cases h
    unfold Zoi Zof; have l1 := ZJh (n := x.num.natAbs) (by omega); have l2 := ZJh (n := x.den) (by omega); rw [if_pos (Zkd h1), Ze]; have e0 : ifb (decide (x.num < 0)) (bnd (Zud x) fun y136 => some (!(y136))) (some false) = some (decide (x.num < 0)) := by
      unfold Zud; by_cases h : x.num < 0
      · have : x ≠ 0 := fun e => by subst e; simp at h
        rw [decide_eq_true h, ZK, Ze, decide_eq_false this]; rfl
      · rw [decide_eq_false h, ZH]
    rw [e0, Ze]; have e1 : ifb (decide (x.num < 0)) (bnd (Z7b ([45] ++ Zsb x.num.natAbs)) fun y80 => some (([45] : List UInt8) ++ Zsb x.num.natAbs)) (some (Zsb x.num.natAbs)) = some ((if x.num < 0 then [45] else []) ++ Zsb x.num.natAbs) := by
      by_cases h : x.num < 0
      · rw [decide_eq_true h, ZK, ZSd (by simp; omega), Ze, if_pos h]
      · rw [decide_eq_false h, ZH, if_neg h]; rfl
    rw [e1, Ze]; unfold txtQ Zgc Zhd; have l3 : ((if x.num < 0 then [45] else []) ++ Zsb x.num.natAbs : List UInt8).length ≤ 4398046511105 := by
      rw [List.length_append]; split <;> simp <;> omega
    generalize ((if x.num < 0 then [45] else []) ++ Zsb x.num.natAbs : List UInt8) = s at *; rw [Ze, ZFj, Ze, Ze, ZYk]; by_cases hd : x.den = 1
    · rw [hd]; simp [ifb, bnd]
    · have := x.den_nz; rw [decide_eq_true (by omega), ZK, ZSd (by simp; omega), Ze, if_pos (Zkd h2), Ze, ZSd (by simp; omega), Ze, Ze, if_neg hd]; simp
  · cases h
noncomputable def Zjf (x : Rat) (y : Rat) : Option (Bool) :=
 bnd (ZLd x) fun a =>
 bnd (ZMg y) fun b =>
 some (a == b)
set_option maxRecDepth 100000
theorem Zwl {k m : Nat} {x y : Rat} (h : sz k x) (h' : sz m y) (hk : k + m ≤ 1000000000) : Z2d x y = some (x + y) := by unfold Z2d; rw [if_pos ⟨h.sm (by omega), h'.sm (by omega)⟩]
theorem rsub_ok {k m : Nat} {x y : Rat} (h : sz k x) (h' : sz m y) (hk : k + m ≤ 1000000000) : ZHf x y = some (x - y) := by unfold ZHf; rw [if_pos ⟨h.sm (by omega), h'.sm (by omega)⟩]
theorem rmul_ok {k m : Nat} {x y : Rat} (h : sz k x) (h' : sz m y) (hk : k + m ≤ 1000000000) : Zrf x y = some (x * y) := by unfold Zrf; rw [if_pos ⟨h.sm (by omega), h'.sm (by omega)⟩]
theorem Z6l {k m : Nat} {x y : Rat} (h : sz k x) (h' : sz m y) (hk : k + m ≤ 1000000000) (hy : y ≠ 0) : rbyF x y = some (x / y) := by unfold rbyF; rw [if_pos ⟨h.sm (by omega), h'.sm (by omega)⟩, if_neg hy]
theorem Zem {k : Nat} {x : Rat} (h : sz k x) (hk : k ≤ 1000000000) : Zjf x x = some true := by
  unfold Zjf ZLd ZMg; rw [if_pos (h.ok (by omega)), Ze, Ze]; simp
theorem ZYo : ZNf = some (0 : Rat) := by unfold ZNf ZIc; rw [Ze]; rfl
noncomputable def Zvh (r : (Bool × Rat)) : Option (Bool) :=
 some r.1
noncomputable def Zsf (l : (List (Bool × Rat))) (g : Unit) : Option (Int) :=
 bnd (bnd (Z4 (fun s : Int => match s with
 | a =>
 (ifb (decide (a < (l.length : Int)))
 (bnd (idx l a) fun b =>
 bnd (Zvh ((b.1, b.2))) fun c =>
 ifb (c)
 (some (.inr ((.inl a))))
 (bnd (chk .i64 (a + ((1 : Int)))) fun d =>
 some (.inl d)))
 (some (.inr ((.inr (()))))))) Zia ((0 : Int)))
 (fun (p : (Int) ⊕ (Unit)) => match p with
 | .inl e =>
 (some ((.inr e)))
 | .inr (()) =>
 (some ((.inl (()))))))
 (fun (p : (Unit) ⊕ (Int)) => match p with
 | .inl (()) =>
 (some ((-1 : Int)))
 | .inr f =>
 (some f))
noncomputable def Zng (l : (List (Bool × Rat))) : Option (Int) :=
 bnd (ifb (((l.length : Int)) == ((0 : Int)))
 (some true)
 (some (decide ((64 : Int) < (l.length : Int)))))
 (fun (b : Bool) =>
 (ifb (b)
 (some ((4 : Int)))
 (bnd (bnd (Z4 (fun s : Int => match s with
 | a =>
 (ifb (decide (a < (l.length : Int)))
 (bnd (idx l a) fun c =>
 bnd (Zfe ([c.2])) fun d =>
 ifb (!(d))
 (some (.inr ((.inl ((1 : Int))))))
 (bnd (chk .i64 (a + ((1 : Int)))) fun e =>
 some (.inl e)))
 (some (.inr ((.inr (()))))))) Zia ((0 : Int)))
 (fun (p : (Int) ⊕ (Unit)) => match p with
 | .inl f =>
 (some ((.inr f)))
 | .inr (()) =>
 (some ((.inl (()))))))
 (fun (p : (Unit) ⊕ (Int)) => match p with
 | .inl (()) =>
 (bnd (bnd (idx l ((0 : Int))) fun g =>
 ifb (!(g.1))
 (some true)
 (bnd (chk .i64 (((l.length : Int)) - ((1 : Int)))) fun h =>
 bnd (idx l h) fun i =>
 some (!(i.1))))
 (fun (j : Bool) =>
 (ifb (j)
 (some ((7 : Int)))
 (some ((0 : Int))))))
 | .inr k =>
 (some k)))))
noncomputable def Zxe (l : (List (Bool × Rat))) : Option ((List Rat) × Int) :=
 bnd (Zng l) fun d =>
 ifb (d != ((0 : Int)))
 (some ((([] : (List Rat)), d)))
 (bnd (bnd (Z4 (fun s : (List Rat) × Int × Int => match s with
 | (b, a, c) =>
 (ifb (decide (a < (l.length : Int)))
 (bnd (bnd (idx l a) fun h =>
 ifb (h.1)
 (some ((b, a)))
 (bnd (Zlb l a ((l.length : Int))) fun i =>
 bnd (Zsf i (())) fun j =>
 bnd (chk .i64 (a + j)) fun e =>
 bnd (bnd (idx l c) fun k =>
 bnd (idx l e) fun m =>
 some ((k.2, m.2)))
 (fun (p : Rat × Rat) => match p with
 | (f, n) =>
 (bnd (ZBc n f) fun o =>
 bnd (chk .i64 (a - c)) fun q =>
 bnd (Zlc q) fun r =>
 bnd (chk .i64 (e - c)) fun t =>
 bnd (Zlc t) fun u =>
 bnd (ZEd r u) fun v =>
 bnd (Znc o v) fun w =>
 bnd (Zwc f w) fun g =>
 bnd (ZZa 56 (b ++ [g])) fun C =>
 some (((b ++ [g]), c))))))
 (fun (p : (List Rat) × Int) => match p with
 | (x, y) =>
 (bnd (chk .i64 (a + ((1 : Int)))) fun z =>
 some (.inl ((x, z, y))))))
 (some (.inr b)))) Zia ((([] : (List Rat)), (0 : Int), (0 : Int))))
 (fun (A : (List Rat)) =>
 (some A)))
 (fun (B : (List Rat)) =>
 (some ((B, (0 : Int))))))
noncomputable def Zdf (l : (List (Bool × Rat))) : Option ((List Rat)) :=
 bnd (bnd (Z4 (fun s : (List Rat) × Int => match s with
 | (b, a) =>
 (ifb (decide (a < (l.length : Int)))
 (bnd (bnd (idx l a) fun i =>
 ifb (i.1)
 (some b)
 (bnd (bnd (Z4 (fun s : Int => match s with
 | c =>
 (bnd (idx l c) fun j =>
 ifb (!(j.1))
 (bnd (chk .i64 (c - ((1 : Int)))) fun k =>
 some (.inl k))
 (some (.inr c)))) Zia a)
 (fun (m : Int) =>
 (some m)))
 (fun (d : Int) =>
 (bnd (bnd (Z4 (fun s : Int => match s with
 | e =>
 (bnd (idx l e) fun n =>
 ifb (!(n.1))
 (bnd (chk .i64 (e + ((1 : Int)))) fun o =>
 some (.inl o))
 (some (.inr e)))) Zia a)
 (fun (q : Int) =>
 (some q)))
 (fun (f : Int) =>
 (bnd (chk .i64 (a - d)) fun r =>
 bnd (chk .i64 (f - d)) fun t =>
 bnd (Zve r t) fun u =>
 bnd (bnd (idx l d) fun v =>
 bnd (idx l f) fun w =>
 some ((v.2, w.2)))
 (fun (p : Rat × Rat) => match p with
 | (g, x) =>
 (bnd (ZHf x g) fun y =>
 bnd (Zrf y u.1) fun z =>
 bnd (Z2d g z) fun h =>
 bnd (ZZa 56 (b ++ [h])) fun E =>
 some ((b ++ [h]))))))))))
 (fun (A : (List Rat)) =>
 (bnd (chk .i64 (a + ((1 : Int)))) fun B =>
 some (.inl ((A, B))))))
 (some (.inr b)))) Zia ((([] : (List Rat)), (0 : Int))))
 (fun (C : (List Rat)) =>
 (some C)))
 (fun (D : (List Rat)) =>
 (some D))
noncomputable def ZVg (l : (List (Bool × Rat))) : Option (Rat × Int) :=
 bnd (Zdf l) fun d =>
 ifb (((d.length : Int)) == ((0 : Int)))
 (bnd (ZNf ) fun e =>
 some ((e, (5 : Int))))
 (bnd (ZNf ) fun f =>
 bnd (bnd (Z4 (fun s : Rat × Int × Int => match s with
 | (c, a, b) =>
 (ifb (decide (b < (l.length : Int)))
 (bnd (idx l b) fun g =>
 bnd (ifb (!(g.1))
 (bnd (idx d a) fun h =>
 bnd (idx l b) fun i =>
 bnd (rbyF h i.2) fun j =>
 bnd (Z2d c j) fun k =>
 bnd (chk .i64 (a + ((1 : Int)))) fun m =>
 some ((k, m)))
 (some ((c, a))))
 (fun (p : Rat × Int) => match p with
 | (n, o) =>
 (bnd (chk .i64 (b + ((1 : Int)))) fun q =>
 some (.inl ((n, o, q))))))
 (some (.inr ((c, a)))))) Zia ((f, (0 : Int), (0 : Int))))
 (fun (p : Rat × Int) => match p with
 | (r, t) =>
 (some ((r, t)))))
 (fun (p : Rat × Int) => match p with
 | (u, v) =>
 (bnd (ZIc v) fun w =>
 bnd (rbyF u w) fun x =>
 some ((x, (0 : Int))))))
noncomputable def Zfg (l : (List (Bool × Rat))) : Option (Int) :=
 bnd (ifb (decide ((l.length : Int) < (1 : Int)))
 (some true)
 (some (decide ((64 : Int) < (l.length : Int)))))
 (fun (b : Bool) =>
 (ifb (b)
 (some ((4 : Int)))
 (bnd (bnd (Z4 (fun s : Int => match s with
 | a =>
 (ifb (decide (a < (l.length : Int)))
 (bnd (idx l a) fun c =>
 bnd (ZQg c.2) fun d =>
 ifb (decide (d ≤ (0 : Int)))
 (some (.inr ((.inl ((1 : Int))))))
 (bnd (chk .i64 (a + ((1 : Int)))) fun e =>
 some (.inl e)))
 (some (.inr ((.inr (()))))))) Zia ((0 : Int)))
 (fun (p : (Int) ⊕ (Unit)) => match p with
 | .inl f =>
 (some ((.inr f)))
 | .inr (()) =>
 (some ((.inl (()))))))
 (fun (p : (Unit) ⊕ (Int)) => match p with
 | .inl (()) =>
 (bnd (bnd (idx l ((0 : Int))) fun g =>
 ifb (!(g.1))
 (some true)
 (bnd (chk .i64 (((l.length : Int)) - ((1 : Int)))) fun h =>
 bnd (idx l h) fun i =>
 some (!(i.1))))
 (fun (j : Bool) =>
 (ifb (j)
 (some ((7 : Int)))
 (some ((0 : Int))))))
 | .inr k =>
 (some k)))))
noncomputable def Zcg (l : (List (Bool × (Int × Int)))) : Option ((List (Bool × Rat)) × (List (Bool × Rat))) :=
 bnd (bnd (Z4 (fun s : (List (Bool × Rat)) × (List (Bool × Rat)) × Int => match s with
 | (b, c, d) =>
 (ifb (decide (d < (l.length : Int)))
 (bnd (idx l d) fun a =>
 bnd (Zld ((a.2.1, a.2.2))) fun e =>
 bnd (ZZa 64 (b ++ [(a.1, e)])) fun m =>
 bnd (Zsd ((a.2.1, a.2.2))) fun f =>
 bnd (ZZa 64 (c ++ [(a.1, f)])) fun n =>
 bnd (chk .i64 (d + ((1 : Int)))) fun g =>
 some (.inl (((b ++ [(a.1, e)]), (c ++ [(a.1, f)]), g))))
 (some (.inr ((b, c)))))) Zia ((([] : (List (Bool × Rat))), ([] : (List (Bool × Rat))), (0 : Int))))
 (fun (p : (List (Bool × Rat)) × (List (Bool × Rat))) => match p with
 | (h, i) =>
 (some ((h, i)))))
 (fun (p : (List (Bool × Rat)) × (List (Bool × Rat))) => match p with
 | (j, k) =>
 (some ((j, k))))
noncomputable def Zyf (l : (List (Bool × Rat))) : Option (Rat × Int) :=
 bnd (Zxe l) fun a =>
 ifb (a.2 != ((0 : Int)))
 (some (((0 : Rat), a.2)))
 (ifb (((a.1.length : Int)) == ((0 : Int)))
 (some (((0 : Rat), (5 : Int))))
 (bnd (bnd (Z4 (fun s : Rat × Int × Int => match s with
 | (c, b, d) =>
 (ifb (decide (d < (l.length : Int)))
 (bnd (idx l d) fun e =>
 bnd (ifb (!(e.1))
 (bnd (idx a.1 b) fun f =>
 bnd (ZEd f e.2) fun g =>
 bnd (Zwc c g) fun h =>
 bnd (chk .i64 (b + ((1 : Int)))) fun i =>
 some ((h, i)))
 (some ((c, b))))
 (fun (p : Rat × Int) => match p with
 | (j, k) =>
 (bnd (chk .i64 (d + ((1 : Int)))) fun m =>
 some (.inl ((j, k, m))))))
 (some (.inr ((c, b)))))) Zia (((0 : Rat), (0 : Int), (0 : Int))))
 (fun (p : Rat × Int) => match p with
 | (n, o) =>
 (some ((n, o)))))
 (fun (p : Rat × Int) => match p with
 | (q, r) =>
 (bnd (Zlc r) fun t =>
 bnd (ZEd q t) fun u =>
 some ((u, (0 : Int)))))))
noncomputable def Zpi (l : (List (Bool × (Int × Int)))) : Option (Bool) :=
 ifb (decide ((100 : Int) < (l.length : Int)))
 (bnd (ZMe ) fun h =>
 some h)
 (bnd (Zcg l) fun b =>
 bnd (Zxe b.1) fun a =>
 bnd (Zyf b.1) fun c =>
 bnd (Zfg b.2) fun e =>
 ifb (e != ((0 : Int)))
 (bnd (ifb (a.2 == e)
 (ifb (c.2 == e)
 (ifb (((a.1.length : Int)) == ((0 : Int)))
 (bnd (ZRe c.1) fun i =>
 ifb (i)
 (bnd (ZMe ) fun j =>
 some j)
 (some false))
 (some false))
 (some false))
 (some false))
 (fun (k : Bool) =>
 (some k)))
 (bnd (Zdf b.2) fun f =>
 bnd (ZVg b.2) fun g =>
 bnd (ifb (a.2 != ((0 : Int)))
 (some true)
 (ifb (c.2 != g.2)
 (some true)
 (bnd (Zjf c.1 g.1) fun m =>
 ifb (!(m))
 (some true)
 (some (((a.1.length : Int)) != ((f.length : Int)))))))
 (fun (n : Bool) =>
 (ifb (n)
 (some false)
 (bnd (bnd (Z4 (fun s : Int => match s with
 | d =>
 (ifb (decide (d < (a.1.length : Int)))
 (bnd (idx a.1 d) fun o =>
 bnd (idx f d) fun q =>
 bnd (Zjf o q) fun r =>
 ifb (!(r))
 (some (.inr ((.inl false))))
 (bnd (chk .i64 (d + ((1 : Int)))) fun t =>
 some (.inl t)))
 (some (.inr ((.inr (()))))))) Zia ((0 : Int)))
 (fun (p : (Bool) ⊕ (Unit)) => match p with
 | .inl u =>
 (some ((.inr u)))
 | .inr (()) =>
 (some ((.inl (()))))))
 (fun (p : (Unit) ⊕ (Bool)) => match p with
 | .inl (()) =>
 (bnd (ZMe ) fun v =>
 some v)
 | .inr w =>
 (some w)))))))
set_option maxRecDepth 100000
theorem ZMj {α : Type} {b : Nat} {l : List α} (h : l.length * b ≤ 140737488355328) : ZZa b l = some () := by unfold ZZa; rw [if_pos h]
def Zad (R : List (Bool × Rat)) : Int :=
  if R.length = 0 ∨ 64 < R.length then 4 else if R.any (fun x => decide (x.2 ≤ 0)) then 1 else if (R.getD 0 (false, 0)).1 && (R.getD (R.length - 1) (false, 0)).1 then 0 else 7
theorem ZMk (R : List (Bool × Rat)) (h : 0 < R.length) (h2 : R.length ≤ 64) : (bnd (bnd (idx R ((0 : Int))) fun y52 => ifb (!(y52.1)) (some true) (bnd (chk .i64 (((R.length : Int)) - ((1 : Int)))) fun y67 => bnd (idx R y67) fun y69 => some (!(y69.1))))
  (fun (x39 : Bool) => (ifb (x39) (some ((7 : Int))) (some ((0 : Int)))))) = some (if (R.getD 0 (false, 0)).1 && (R.getD (R.length - 1) (false, 0)).1 then 0 else 7) := by
  have e0 : idx R (0 : Int) = some R[0] := Z3 (l := R) (i := 0) h; have e1 : (R.length : Int) - 1 = ((R.length - 1 : Nat) : Int) := by omega
  rw [e0, Ze, Zea (by omega) (by omega), Ze, e1, Z3 (by omega), Ze, Zdb h, Zdb (i := R.length - 1) (by omega)]
  cases R[0].1 <;> cases R[R.length - 1].1 <;> rfl
theorem Zim (R : List (Bool × Rat)) : Zng R = some (Zad R) := by
  unfold Zng Zad; by_cases h0 : R.length = 0
  · rw [if_pos (.inl h0), h0]; rfl
  have e0 : ((R.length : Int) == 0) = false := by
    rw [Bool.eq_false_iff]; intro h; rw [beq_iff_eq] at h; omega
  rw [e0, ZH, Ze]; by_cases h64 : 64 < R.length
  · rw [if_pos (.inr h64), decide_eq_true (by omega), ZK]
  rw [if_neg (by omega), decide_eq_false (by omega), ZH]; have ab : ∀ x : Rat, Zfe [x] = some (decide (0 < x)) := fun x => by rw [Zap _ (by simp)]; simp
  by_cases hb : (R.any fun x => decide (x.2 ≤ 0)) = true
  · obtain ⟨m, hm, h1, h2⟩ := Zyk hb; rw [if_pos hb]; refine Zab (y := .inr (1 : Int)) (Zab (ZVc (r := .inl (1 : Int)) (fun k => (k : Int)) m rfl (by omega) (fun k hk => ?_) ?_) rfl) rfl
    · have := h2 k (by omega) hk; have hp : 0 < R[k].2 := by have := of_decide_eq_false this; grind
      simp only; rw [decide_eq_true (by omega), ZK, Z3 (by omega), Ze, ab, Ze, decide_eq_true hp, Bool.not_true, ZH, Zea (by omega) (by omega), Ze]; rfl
    · have hp : ¬ 0 < R[m].2 := by have := of_decide_eq_true h1; grind
      simp only; rw [decide_eq_true (by omega), ZK, Z3 (by omega), Ze, ab, Ze, decide_eq_false hp, Bool.not_false, ZK]
  · have hb' : (R.any fun x => decide (x.2 ≤ 0)) = false := by simpa using hb
    rw [if_neg hb]; refine Zab (y := .inl ()) (Zab (ZVc (r := .inr ()) (fun k => (k : Int)) R.length rfl (by omega) (fun k hk => ?_) ?_) rfl) ?_
    · have := ZIi hb' k hk; have hp : 0 < R[k].2 := by have := of_decide_eq_false this; grind
      simp only; rw [decide_eq_true (by omega), ZK, Z3 (by omega), Ze, ab, Ze, decide_eq_true hp, Bool.not_true, ZH, Zea (by omega) (by omega), Ze]; rfl
    · simp only; rw [decide_eq_false (by omega), ZH]
    · exact ZMk R (by omega) (by omega)
theorem rran_eq (R : List (Bool × Rat)) : Zfg R = some (Zad R) := by
  unfold Zfg Zad ZQg; by_cases h0 : R.length = 0
  · rw [if_pos (.inl h0), h0]; rfl
  rw [decide_eq_false (by omega), ZH, Ze]; by_cases h64 : 64 < R.length
  · rw [if_pos (.inr h64), decide_eq_true (by omega), ZK]
  rw [if_neg (by omega), decide_eq_false (by omega), ZH]; by_cases hb : (R.any fun x => decide (x.2 ≤ 0)) = true
  · obtain ⟨m, hm, h1, h2⟩ := Zyk hb; rw [if_pos hb]; refine Zab (y := .inr (1 : Int)) (Zab (ZVc (r := .inl (1 : Int)) (fun k => (k : Int)) m rfl (by omega) (fun k hk => ?_) ?_) rfl) rfl
    · have := h2 k (by omega) hk; have hp : ¬ R[k].2.num.sign ≤ 0 := fun h => by have := Zyi.1 h; simp_all
      simp only; rw [decide_eq_true (by omega), ZK, Z3 (by omega), Ze, Ze, decide_eq_false hp, ZH, Zea (by omega) (by omega), Ze]; rfl
    · have hp : R[m].2.num.sign ≤ 0 := Zyi.2 (of_decide_eq_true h1); simp only; rw [decide_eq_true (by omega), ZK, Z3 (by omega), Ze, Ze, decide_eq_true hp, ZK]
  · have hb' : (R.any fun x => decide (x.2 ≤ 0)) = false := by simpa using hb
    rw [if_neg hb]; refine Zab (y := .inl ()) (Zab (ZVc (r := .inr ()) (fun k => (k : Int)) R.length rfl (by omega) (fun k hk => ?_) ?_) rfl) ?_
    · have := ZIi hb' k hk; have hp : ¬ R[k].2.num.sign ≤ 0 := fun h => by have := Zyi.1 h; simp_all
      simp only; rw [decide_eq_true (by omega), ZK, Z3 (by omega), Ze, Ze, decide_eq_false hp, ZH, Zea (by omega) (by omega), Ze]; rfl
    · simp only; rw [decide_eq_false (by omega), ZH]
    · exact ZMk R (by omega) (by omega)
structure Ran (R : List (Bool × Rat)) : Prop where
  n0 : 0 < R.length
  n64 : R.length ≤ 64
  pos : ∀ i, (h : i < R.length) → 0 < R[i].2
  first : R[0].1 = true
  last : R[R.length - 1].1 = true
theorem Ran.of {R : List (Bool × Rat)} (h : Zad R = 0) : Ran R := by
  unfold Zad at h; split at h
  · simp at h
  rename_i h0; split at h
  · simp at h
  rename_i h1; split at h
  · rename_i h2; have n0 : 0 < R.length := by omega
    rw [Zdb n0, Zdb (i := R.length - 1) (by omega), Bool.and_eq_true] at h2; have h1' : (R.any fun x => decide (x.2 ≤ 0)) = false := by simpa using h1
    exact ⟨n0, by omega, fun i hi => by have := ZIi h1' i hi; simp at this; grind, h2.1, h2.2⟩
  · simp at h
def pr (R : List (Bool × Rat)) : Nat → Nat
  | 0 => 0
  | i + 1 => if (R.getD i (false, 0)).1 then i else pr R i
theorem pr_lt {R : List (Bool × Rat)} : ∀ i, 0 < i → pr R i < i
  | 0, h => by omega
  | i + 1, _ => by
    unfold pr
    split
    · omega
    · rcases Nat.eq_zero_or_pos i with h | h
      · subst h; exact Nat.succ_pos _
      · have := pr_lt (R := R) i h; omega
theorem Zwk {R : List (Bool × Rat)} (h : Ran R) : ∀ i, 0 < i → i ≤ R.length → (R.getD (pr R i) (false, 0)).1 = true ∧ ∀ j, pr R i < j → j < i → (R.getD j (false, 0)).1 = false
  | 0, h, _ => by omega
  | i + 1, _, hi => by
    unfold pr
    split
    · rename_i hh
      exact ⟨hh, fun j h1 h2 => by omega⟩
    · rename_i hh
      rcases Nat.eq_zero_or_pos i with h0 | h0
      · subst h0
        rw [Zdb h.n0] at hh
        exact absurd h.first hh
      · have ih := Zwk h i h0 (by omega)
        refine ⟨ih.1, fun j h1 h2 => ?_⟩
        rcases Nat.lt_or_ge j i with h3 | h3
        · exact ih.2 j h1 h3
        · obtain rfl : j = i := by omega
          simpa using hh
def nx (R : List (Bool × Rat)) (i : Nat) : Nat := (R.drop i).findIdx (·.1)
theorem Zzl {R : List (Bool × Rat)} (h : Ran R) {i : Nat} (hi : i < R.length) : i + nx R i < R.length ∧ (R.getD (i + nx R i) (false, 0)).1 = true ∧ ∀ j, j < nx R i → (R.getD (i + j) (false, 0)).1 = false := by
  have hm : (R.drop i).findIdx (·.1) < (R.drop i).length := List.findIdx_lt_length.2 ⟨R[R.length - 1], by
    rw [List.mem_drop_iff_getElem]; exact ⟨R.length - 1 - i, by have := h.n0; omega, by congr 1; have := h.n0; omega⟩, h.last⟩
  have hl : (R.drop i).length = R.length - i := List.length_drop ..; have h1 : i + nx R i < R.length := by unfold nx; omega
  refine ⟨h1, ?_, fun j hj => ?_⟩
  · rw [Zdb h1]; have := List.findIdx_getElem (xs := R.drop i) (p := (·.1)) (w := hm); rw [List.getElem_drop] at this; exact this
  · have h2 := List.not_of_lt_findIdx (xs := R.drop i) (p := (·.1)) hj; have h3 : i + j < R.length := by unfold nx at hj; omega
    rw [Zdb h3]; rw [List.getElem_drop] at h2
    simpa using h2
set_option maxRecDepth 100000
abbrev rG (R : List (Bool × Rat)) (i : Nat) : Bool × Rat := R.getD i (false, 0)
def ZTc (R : List (Bool × Rat)) (i : Nat) : Rat :=
  (rG R (pr R i)).2 + ((rG R (i + nx R i)).2 - (rG R (pr R i)).2) * ((((i : Int) - (pr R i : Int) : Int) : Rat) / ((((i + nx R i : Nat) : Int) - (pr R i : Int) : Int) : Rat))
def dr (R : List (Bool × Rat)) : Nat → List Rat
  | 0 => []
  | i + 1 => if (rG R i).1 then dr R i else dr R i ++ [ZTc R i]
theorem ZXd (R : List (Bool × Rat)) : ∀ k, (dr R k).length ≤ k
  | 0 => by simp [dr]
  | k + 1 => by
    have := ZXd R k
    unfold dr
    split
    · omega
    · simp; omega
theorem Zsl (R : List (Bool × Rat)) (k : Nat) : ∀ n, ∃ l, dr R (k + n) = dr R k ++ l
  | 0 => ⟨[], by simp⟩
  | n + 1 => by
    obtain ⟨l, hl⟩ := Zsl R k n
    rw [← Nat.add_assoc]
    show ∃ l, (if (rG R (k + n)).1 then dr R (k + n) else dr R (k + n) ++ [ZTc R (k + n)]) = _
    split
    · exact ⟨l, hl⟩
    · exact ⟨l ++ [ZTc R (k + n)], by rw [hl, List.append_assoc]⟩
theorem dr_at {R : List (Bool × Rat)} {k n : Nat} (h : k < n) (hr : (rG R k).1 = false) : (dr R n)[(dr R k).length]? = some (ZTc R k) := by
  obtain ⟨l, hl⟩ := Zsl R (k + 1) (n - (k + 1)); rw [show k + 1 + (n - (k + 1)) = n by omega] at hl; have : dr R (k + 1) = dr R k ++ [ZTc R k] := by
    show (if (rG R k).1 then dr R k else dr R k ++ [ZTc R k]) = _; rw [hr]; rfl
  rw [hl, this]; simp
theorem idx_q {α : Type} (l : List α) (j : Nat) : idx l (j : Int) = l[j]? := by simp [idx]
def okR (R : List (Bool × Rat)) : Prop := ∀ i, (h : i < R.length) → sz 64 R[i].2
theorem okR.at {R : List (Bool × Rat)} (h : okR R) {i : Nat} (hi : i < R.length) : sz 64 (rG R i).2 := by unfold rG; rw [Zdb hi]; exact h i hi
section
variable {R : List (Bool × Rat)}
theorem gaps (h : Ran R) {i : Nat} (hi : i < R.length) (hr : (rG R i).1 = false) : 0 < i ∧ pr R i < i ∧ 0 < nx R i ∧ i + nx R i < R.length := by
  have h0 : 0 < i := by
    rcases Nat.eq_zero_or_pos i with h0 | h0
    · subst h0; unfold rG at hr; rw [Zdb h.n0, h.first] at hr
      cases hr
    · exact h0
  have h2 := Zzl h hi; refine ⟨h0, pr_lt i h0, ?_, h2.1⟩; rcases Nat.eq_zero_or_pos (nx R i) with h3 | h3
  · have := h2.2.1; rw [h3, Nat.add_zero, hr] at this
    cases this
  · exact h3
theorem Zdi (h : Ran R) (hR : okR R) {i : Nat} (hi : i < R.length) (hr : (rG R i).1 = false) : sz 400 (ZTc R i) := by
  obtain ⟨g0, g1, g2, g3⟩ := gaps h hi hr; have n64 := h.n64; have a := hR.at (i := pr R i) (by omega); have b := hR.at (i := i + nx R i) (by omega); have z1 := Z0c (n := (i : Int) - (pr R i : Int)) (by omega); have z2 := Z0c (n := ((i + nx R i : Nat) : Int) - (pr R i : Int)) (by omega); exact (Zbh a (Zpf (ZGg b a) (ZUd z1 z2))).mono (by omega)
theorem ZQm (l : List (Bool × Rat)) (hl : l.length ≤ 1000) (h : l.findIdx (·.1) < l.length) : Zsf l () = some (l.findIdx (·.1) : Int) := by
  unfold Zsf Zvh; refine Zab (y := .inr (l.findIdx (·.1) : Int)) (Zab (ZVc (r := .inl (l.findIdx (·.1) : Int)) (fun k => (k : Int)) (l.findIdx (·.1)) rfl (by omega) (fun k hk => ?_) ?_) rfl) rfl
  · have := List.not_of_lt_findIdx hk; have hf : l[k].1 = false := by simpa using this
    simp only; rw [decide_eq_true (by omega), ZK, Z3 (by omega), Ze, Ze, hf, ZH, Zea (by omega) (by omega), Ze]; rfl
  · have hf : l[l.findIdx (·.1)].1 = true := List.findIdx_getElem (xs := l) (p := (·.1)) (w := h); simp only; rw [decide_eq_true (by omega), ZK, Z3 h, Ze, Ze, hf, ZK]
theorem Zml (hR : okR R) (h0 : Zad R = 0) : Zxe R = some (dr R R.length, 0) := by
  have h := Ran.of h0; have n64 := h.n64; unfold Zxe; rw [Zim, Ze, h0]; have c0 : ((0 : Int) != 0) = false := rfl; rw [c0, ZH]; refine Zab (Zab (ZVc (r := dr R R.length) (fun k => (dr R k, (k : Int), (pr R k : Int))) R.length rfl (by omega) (fun i hi => ?_) ?_) rfl) rfl
  · simp only; rw [decide_eq_true (by omega), ZK, Z3 hi, Ze]; have e2 := Zdb (d := (false, (0 : Rat))) hi; by_cases hr : (rG R i).1 = true
    · have hr' : R[i].1 = true := by rw [← e2]; exact hr
      rw [hr', ZK, Ze]; simp only; rw [Zea (by omega) (by omega), Ze]; have e3 : dr R (i + 1) = dr R i := by show (if (rG R i).1 then _ else _) = _; rw [if_pos hr]
      have e4 : pr R (i + 1) = i := by show (if (R.getD i (false, 0)).1 then _ else _) = _; rw [if_pos hr]
      rw [e3, e4]; rfl
    · have hrf : (rG R i).1 = false := by simpa using hr
      have hr' : R[i].1 = false := by rw [← e2]; exact hrf
      obtain ⟨g0, g1, g2, g3⟩ := gaps h hi hrf; have e3 : dr R (i + 1) = dr R i ++ [ZTc R i] := by show (if (rG R i).1 then _ else _) = _; rw [if_neg hr]
      have e4 : pr R (i + 1) = pr R i := by show (if (R.getD i (false, 0)).1 then _ else _) = _; rw [if_neg hr]
      have ec : Zlb R (i : Int) (R.length : Int) = some (R.drop i) := by
        unfold Zlb; rw [if_pos ⟨by omega, by omega, by omega⟩, Int.toNat_natCast, Int.toNat_natCast, List.take_length]
      have hl : (R.drop i).length = R.length - i := List.length_drop ..; have ei : Zsf (R.drop i) () = some (nx R i : Int) := ZQm _ (by omega) (by have : (R.drop i).findIdx (·.1) = nx R i := rfl; omega); have a := hR.at (i := pr R i) (by omega); have b := hR.at (i := i + nx R i) (by omega); have z1 := Z0c (n := (i : Int) - (pr R i : Int)) (by omega); have z2 := Z0c (n := ((i + nx R i : Nat) : Int) - (pr R i : Int)) (by omega); have hne : ((((i + nx R i : Nat) : Int) - (pr R i : Int) : Int) : Rat) ≠ 0 := by
        intro hz; have := Rat.intCast_eq_zero_iff.1 hz; omega
      have ga := Zdb (l := R) (d := (false, (0 : Rat))) (i := pr R i) (by omega); have gb := Zdb (l := R) (d := (false, (0 : Rat))) (i := i + nx R i) (by omega); have hd := ZXd R i; rw [hr', ZH, ec, Ze, ei, Ze, Zea (by omega) (by omega), Ze]; rw [show (i : Int) + (nx R i : Int) = ((i + nx R i : Nat) : Int) by omega, Z3 (by omega), Ze, Z3 (by omega), Ze, Ze, ← ga, ← gb]; simp only; rw [qsub_ok b a (by omega), Ze, Zea (by omega) (by omega), Ze, Zqj, Ze, Zea (by omega) (by omega), Ze, Zqj, Ze, ZVj z1 z2 (by omega) hne, Ze, qmul_ok (ZGg b a) (ZUd z1 z2) (by omega), Ze, Zdk a (Zpf (ZGg b a) (ZUd z1 z2)) (by omega), Ze]; have hroom : ∀ x : Rat, ZZa 56 (dr R i ++ [x]) = some () := fun x => ZMj (by simp; omega); rw [hroom, Ze, Ze]; simp only; rw [Zea (by omega) (by omega), Ze, e3, e4]; rfl
  · simp only; rw [decide_eq_false (by omega), ZH]
theorem ZSl (hR : okR R) (h0 : Zad R = 0) : Zdf R = some (dr R R.length) := by
  have h := Ran.of h0; have n64 := h.n64; unfold Zdf; refine Zab (Zab (ZVc (r := dr R R.length) (fun k => (dr R k, (k : Int))) R.length rfl (by omega) (fun i hi => ?_) ?_) rfl) rfl
  · simp only; rw [decide_eq_true (by omega), ZK, Z3 hi, Ze]; have e2 := Zdb (d := (false, (0 : Rat))) hi; by_cases hr : (rG R i).1 = true
    · have hr' : R[i].1 = true := by rw [← e2]; exact hr
      rw [hr', ZK, Ze]; rw [Zea (by omega) (by omega), Ze]; have e3 : dr R (i + 1) = dr R i := by show (if (rG R i).1 then _ else _) = _; rw [if_pos hr]
      rw [e3]; rfl
    · have hrf : (rG R i).1 = false := by simpa using hr
      have hr' : R[i].1 = false := by rw [← e2]; exact hrf
      obtain ⟨g0, g1, g2, g3⟩ := gaps h hi hrf; have e3 : dr R (i + 1) = dr R i ++ [ZTc R i] := by show (if (rG R i).1 then _ else _) = _; rw [if_neg hr]
      have a := hR.at (i := pr R i) (by omega); have b := hR.at (i := i + nx R i) (by omega); have z1 := Z0c (n := (i : Int) - (pr R i : Int)) (by omega); have z2 := Z0c (n := ((i + nx R i : Nat) : Int) - (pr R i : Int)) (by omega); have hne : ((i + nx R i : Nat) : Int) - (pr R i : Int) ≠ 0 := by omega
      have ga := Zdb (l := R) (d := (false, (0 : Rat))) (i := pr R i) (by omega); have gb := Zdb (l := R) (d := (false, (0 : Rat))) (i := i + nx R i) (by omega); have hd := ZXd R i; have ps := Zwk h i g0 (by omega); have ns := Zzl h hi; have k1 : ∀ {f : Int → Option (Rat × Int) } , True := fun {_} => trivial; rw [hr', ZH]; refine Zab (y := dr R (i + 1)) (Zab (y := (pr R i : Int)) (Zab (ZVc (r := (pr R i : Int)) (fun k => ((i - k : Nat) : Int)) (i - pr R i) rfl (by omega) (fun k hk => ?_) ?_) rfl) (Zab (y := ((i + nx R i : Nat) : Int)) (Zab (ZVc (r := ((i + nx R i : Nat) : Int)) (fun k => ((i + k : Nat) : Int)) (nx R i) rfl (by omega) (fun k hk => ?_) ?_) rfl) ?_)) ?_
      · have hf : R[i - k].1 = false := by
          rw [← Zdb (d := (false, (0 : Rat)))]; rcases Nat.eq_zero_or_pos k with h3 | h3
          · subst h3; exact hrf
          · exact ps.2 (i - k) (by omega) (by omega)
        rw [Z3 (by omega), Ze, hf, Bool.not_false, ZK, Zea (by omega) (by omega), Ze]; congr 2; omega
      · have hf : R[i - (i - pr R i)].1 = true := by
          rw [← Zdb (d := (false, (0 : Rat)))]; rw [show i - (i - pr R i) = pr R i by omega]; exact ps.1
        rw [Z3 (by omega), Ze, hf, Bool.not_true, ZH]; congr 2; omega
      · have hf : R[i + k].1 = false := by
          rw [← Zdb (d := (false, (0 : Rat)))]; exact ns.2.2 k hk
        rw [Z3 (by omega), Ze, hf, Bool.not_false, ZK, Zea (by omega) (by omega), Ze]; rfl
      · have hf : R[i + nx R i].1 = true := by
          rw [← Zdb (d := (false, (0 : Rat)))]; exact ns.2.1
        rw [Z3 (by omega), Ze, hf, Bool.not_true, ZH]
      · have hq : Zve ((i : Int) - (pr R i : Int)) (((i + nx R i : Nat) : Int) - (pr R i : Int)) = some ((((i : Int) - (pr R i : Int) : Int) : Rat) / ((((i + nx R i : Nat) : Int) - (pr R i : Int) : Int) : Rat), 0) := by
          unfold Zve; rw [if_neg hne, Rat.divInt_eq_div]
        have hroom : ∀ x : Rat, ZZa 56 (dr R i ++ [x]) = some () := fun x => ZMj (by simp; omega); rw [Zea (by omega) (by omega), Ze, Zea (by omega) (by omega), Ze, hq, Ze, Z3 (by omega), Ze, Z3 (by omega), Ze, Ze, ← ga, ← gb]; simp only; rw [rsub_ok b a (by omega), Ze, rmul_ok (ZGg b a) (ZUd z1 z2) (by omega), Ze, Zwl a (Zpf (ZGg b a) (ZUd z1 z2)) (by omega), Ze, hroom, Ze, e3]; rfl
      · rw [Zea (by omega) (by omega), Ze]; rfl
  · simp only; rw [decide_eq_false (by omega), ZH]
end
set_option maxRecDepth 100000
def ixs (R : List (Bool × Rat)) : Nat → Rat
  | 0 => 0
  | i + 1 => if (rG R i).1 then ixs R i else ixs R i + ZTc R i / (rG R i).2
def Zwf (R : List (Bool × Rat)) : Rat × Int := if (dr R R.length).length = 0 then (0, 5) else (ixs R R.length / (((dr R R.length).length : Int) : Rat), 0)
section
variable {R : List (Bool × Rat)}
theorem ZKf (h : Ran R) (hR : okR R) : ∀ k, k ≤ R.length → sz (500 * k + 1) (ixs R k)
  | 0, _ => ZKl
  | k + 1, hk => by
    have ih := ZKf h hR k (by omega)
    show sz _ (if (rG R k).1 then ixs R k else ixs R k + ZTc R k / (rG R k).2)
    by_cases hr : (rG R k).1 = true
    · rw [if_pos hr]; exact ih.mono (by omega)
    · rw [if_neg hr]
      exact (Zbh ih (ZUd (Zdi h hR (by omega) (by simpa using hr)) (hR.at (by omega)))).mono (by omega)
theorem ZAn (h : Ran R) (hR : okR R) : sz 40000 (Zwf R).1 := by
  unfold Zwf; have n64 := h.n64; have hl := ZXd R R.length; split
  · exact ZKl.mono (by omega)
  · exact (ZUd (ZKf h hR R.length (Nat.le_refl _)) (Z0c (by omega))).mono (by omega)
theorem Z4l (h : Ran R) {i : Nat} (hi : i < R.length) : (rG R i).2 ≠ 0 := by
  have := h.pos i hi; unfold rG; rw [Zdb hi]; grind
theorem Zij {i : Nat} (hr : (rG R i).1 = true) : dr R (i + 1) = dr R i := by show (if (rG R i).1 then _ else _) = _; rw [if_pos hr]
theorem ZIj {i : Nat} (hr : (rG R i).1 = false) : dr R (i + 1) = dr R i ++ [ZTc R i] := by show (if (rG R i).1 then _ else _) = _; rw [if_neg (by rw [hr]; simp)]
theorem Zzk {i : Nat} (hr : (rG R i).1 = true) : ixs R (i + 1) = ixs R i := by show (if (rG R i).1 then _ else _) = _; rw [if_pos hr]
theorem Z2k {i : Nat} (hr : (rG R i).1 = false) : ixs R (i + 1) = ixs R i + ZTc R i / (rG R i).2 := by show (if (rG R i).1 then _ else _) = _; rw [if_neg (by rw [hr]; simp)]
theorem ZAl {α : Type} (l : List α) : (((l.length : Int)) == ((0 : Int))) = decide (l.length = 0) := by
  rw [Bool.eq_iff_iff, beq_iff_eq, decide_eq_true_iff]; omega
theorem ZTm (hR : okR R) (h0 : Zad R = 0) : Zyf R = some (Zwf R) := by
  have h := Ran.of h0; have n64 := h.n64; unfold Zyf Zwf; have c0 : ((0 : Int) != 0) = false := rfl; rw [Zml hR h0, Ze]; simp only; rw [c0, ZH, ZAl]; by_cases hz : (dr R R.length).length = 0
  · rw [decide_eq_true hz, ZK, if_pos hz]
  rw [decide_eq_false hz, ZH, if_neg hz]; have hl := ZXd R R.length; refine Zab (y := (ixs R R.length, ((dr R R.length).length : Int))) (Zab (y := (ixs R R.length, ((dr R R.length).length : Int))) (ZVc (fun k => (ixs R k, ((dr R k).length : Int), (k : Int))) R.length rfl (by omega) (fun i hi => ?_) ?_) rfl) ?_
  · simp only; rw [decide_eq_true (by omega), ZK, Z3 hi, Ze]; have e2 := Zdb (d := (false, (0 : Rat))) hi; by_cases hr : (rG R i).1 = true
    · have hr' : R[i].1 = true := by rw [← e2]; exact hr
      rw [hr', Bool.not_true, ZH, Ze, Zea (by omega) (by omega), Ze, Zzk hr, Zij hr]; rfl
    · have hrf : (rG R i).1 = false := by simpa using hr
      have hr' : R[i].1 = false := by rw [← e2]; exact hrf
      have hd := ZXd R i; have e3 : R[i].2 = (rG R i).2 := by rw [← e2]
      have zv := Zdi h hR hi hrf; have za := hR.at hi; rw [hr', Bool.not_false, ZK, idx_q, dr_at hi hrf, Ze, e3, ZVj zv za (by omega) (Z4l h hi), Ze, Zdk (ZKf h hR i (by omega)) (ZUd zv za) (by omega), Ze, Zea (by omega) (by omega), Ze, Ze, Zea (by omega) (by omega), Ze, Z2k hrf, ZIj hrf, List.length_append]; rfl
  · simp only; rw [decide_eq_false (by omega), ZH]
  · have hne : (((dr R R.length).length : Int) : Rat) ≠ 0 := by
      intro hc; have := Rat.intCast_eq_zero_iff.1 hc; omega
    rw [Zqj, Ze, ZVj (ZKf h hR R.length (Nat.le_refl _)) (Z0c (by omega)) (by omega) hne, Ze]
theorem ZYn (hR : okR R) (h0 : Zad R = 0) : ZVg R = some (Zwf R) := by
  have h := Ran.of h0; have n64 := h.n64; unfold ZVg Zwf; rw [ZSl hR h0, Ze, ZAl, ZYo, Ze, Ze]; by_cases hz : (dr R R.length).length = 0
  · rw [decide_eq_true hz, ZK, if_pos hz]
  rw [decide_eq_false hz, ZH, if_neg hz]; have hl := ZXd R R.length; refine Zab (y := (ixs R R.length, ((dr R R.length).length : Int))) (Zab (y := (ixs R R.length, ((dr R R.length).length : Int))) (ZVc (fun k => (ixs R k, ((dr R k).length : Int), (k : Int))) R.length rfl (by omega) (fun i hi => ?_) ?_) rfl) ?_
  · simp only; rw [decide_eq_true (by omega), ZK, Z3 hi, Ze]; have e2 := Zdb (d := (false, (0 : Rat))) hi; by_cases hr : (rG R i).1 = true
    · have hr' : R[i].1 = true := by rw [← e2]; exact hr
      rw [hr', Bool.not_true, ZH, Ze, Zea (by omega) (by omega), Ze, Zzk hr, Zij hr]; rfl
    · have hrf : (rG R i).1 = false := by simpa using hr
      have hr' : R[i].1 = false := by rw [← e2]; exact hrf
      have hd := ZXd R i; have e3 : R[i].2 = (rG R i).2 := by rw [← e2]
      have zv := Zdi h hR hi hrf; have za := hR.at hi; rw [hr', Bool.not_false, ZK, idx_q, dr_at hi hrf, Ze, Ze, e3, Z6l zv za (by omega) (Z4l h hi), Ze, Zwl (ZKf h hR i (by omega)) (ZUd zv za) (by omega), Ze, Zea (by omega) (by omega), Ze, Ze, Zea (by omega) (by omega), Ze, Z2k hrf, ZIj hrf, List.length_append]; rfl
  · simp only; rw [decide_eq_false (by omega), ZH]
  · have hne : (((dr R R.length).length : Int) : Rat) ≠ 0 := by
      intro hc; have := Rat.intCast_eq_zero_iff.1 hc; omega
    have rw1 : ∀ x : Int, ZIc x = some (x : Rat) := fun _ => rfl; simp only; rw [rw1, Ze, Z6l (ZKf h hR R.length (Nat.le_refl _)) (Z0c (by omega)) (by omega) hne, Ze]
theorem dr_sz (h : Ran R) (hR : okR R) : ∀ k, k ≤ R.length → ∀ x ∈ dr R k, sz 400 x
  | 0, _, x, hx => by simp [dr] at hx
  | k + 1, hk, x, hx => by
    by_cases hr : (rG R k).1 = true
    · rw [Zij hr] at hx; exact dr_sz h hR k (by omega) x hx
    · have hrf : (rG R k).1 = false := by simpa using hr
      rw [ZIj hrf] at hx
      rcases List.mem_append.1 hx with hx | hx
      · exact dr_sz h hR k (by omega) x hx
      · rw [List.mem_singleton.1 hx]
        exact Zdi h hR (by omega) hrf
end
def Z2b (l : List (Bool × (Int × Int))) : List (Bool × Rat) := l.map fun x => (x.1, ZTd x.2)
theorem ZCn {α β : Type} (f : α → β) (l : List α) {k : Nat} (h : k < l.length) : (l.take (k + 1)).map f = (l.take k).map f ++ [f l[k]] := by
  rw [List.take_succ_eq_append_getElem h, List.map_append]; rfl
theorem Zpo (l : List (Bool × (Int × Int))) (hl : l.length ≤ 100) : Zcg l = some (Z2b l, Z2b l) := by
  unfold Zcg Zld Zsd; refine Zab (y := (Z2b l, Z2b l)) (Zab (y := (Z2b l, Z2b l)) (ZVc (fun k => (Z2b (l.take k), Z2b (l.take k), (k : Int))) l.length rfl (by omega) (fun k hk => ?_) ?_) rfl) rfl
  · have e : Z2b (l.take (k + 1)) = Z2b (l.take k) ++ [(l[k].1, ZTd l[k].2)] := ZCn _ _ hk; have hlen : (Z2b (l.take k)).length = k := by unfold Z2b; simp; omega
    have hroom : ∀ x, ZZa 64 (Z2b (l.take k) ++ [x]) = some () := fun x => ZMj (by simp; omega); simp only; rw [decide_eq_true (by omega), ZK, Z3 hk, Ze, Ze, hroom, Ze, Ze, hroom, Ze, Zea (by omega) (by omega), Ze, e]; rfl
  · simp only; rw [decide_eq_false (by omega), ZH, List.take_length]
theorem ZBo (l : List (Bool × (Int × Int))) (hl : ∀ x ∈ l, i64 x.2) : Zpi l = some true := by
  unfold Zpi; rw [Z1p]; by_cases h100 : 100 < l.length
  · rw [decide_eq_true (by omega), ZK, Ze]
  rw [decide_eq_false (by omega), ZH, Zpo l (by omega), Ze]; simp only; have hR : okR (Z2b l) := fun i hi => by
    have hi' : i < l.length := by unfold Z2b at hi; simpa using hi
    have : (Z2b l)[i] = (l[i].1, ZTd l[i].2) := List.getElem_map ..; rw [this]; exact Z0o (hl _ (List.getElem_mem hi'))
  generalize Z2b l = R at *; rw [rran_eq, Ze]; by_cases h0 : Zad R = 0
  · have h := Ran.of h0; have n64 := h.n64; have hd := ZXd R R.length; have c0 : ((0 : Int) != 0) = false := rfl; rw [Zml hR h0, ZTm hR h0, ZSl hR h0, ZYn hR h0, h0]; simp only [Ze, c0, ZH]; rw [Zem (ZAn h hR) (by omega)]; simp only [Ze, bne_self_eq_false, Bool.not_true, ZH]; refine Zab (y := .inl ()) (Zab (ZVc (r := .inr ()) (fun k => (k : Int)) (dr R R.length).length rfl (by omega) (fun k hk => ?_) ?_) rfl) rfl
    · rw [decide_eq_true (by omega), ZK, Z3 hk, Ze, Ze, Zem (dr_sz h hR R.length (Nat.le_refl _) _ (List.getElem_mem hk)) (by omega), Ze, Bool.not_true, ZH, Zea (by omega) (by omega), Ze]; rfl
    · rw [decide_eq_false (by omega), ZH]
  · have c0 : (Zad R != 0) = true := by simpa using h0
    have q0 : ZRe (0 : Rat) = some true := rfl; unfold Zxe Zyf Zxe; simp only [Zim, Ze, c0, ZK, beq_self_eq_true, q0]; rfl
theorem Zxo {α : Type} {A : Rep α} {v : Zd} {cs : List Value} {l : List α} (h : (Zu A).rel v cs l) {x : α} (hx : x ∈ l) : ∃ c, A.rel v c x := by
  obtain ⟨q, cap, rfl, h1, h2, h3⟩ := h; rcases h3 with rfl | ⟨b, off, c, T, fr, e, hb, hr⟩
  · cases hx
  · obtain ⟨i, hi, rfl⟩ := List.getElem_of_mem hx; exact ⟨_, ZFa hr (List.getElem?_eq_getElem hi)⟩
theorem i64_of {v : Zd} {c : List Value} {r : Int × Int} (h : Rep.rel (ZA (Zb .i64) (Zb .i64)) v c r) : i64 r := by
  obtain ⟨c1, c2, _, ⟨_, h1⟩, _, h2⟩ := h; exact ⟨ZPb.1 h1, ZPb.1 h2⟩
end Go.Eng
namespace Go.Eng
open Go.RowKit
theorem Zg {α : Type _} {a b : α} (h : some a = some b) : a = b := Option.some.inj h
theorem Zw (b : Bool) : b = true ∨ b = false := (Bool.eq_false_or_eq_true b)
theorem leT {a b c : Zd} (h : a.le b) (k : b.le c) : a.le c := Zd.le_trans h k
theorem leR (v : Zd) : v.le v := Zd.le_refl v
theorem Zm {P : Program} {Q : Exit → Act → World → Prop} {a : Act} {w : World} {id : Nat} {l : List Oper} (h : wpList P l.toArray Q l a w) : (Code.region id l.toArray false).wp P Q a w := wp_region_lit h
theorem Zf {P : Program} {Q : Exit → Act → World → Prop} {a : Act} {w : World} {x y : Code} (h : ∀ K : Act → World → Prop, (∀ a w, y.wp P Q a w → K a w) → x.wp P (Exit.then K Q) a w) : (Code.seq x y).wp P Q a w := wp_seq_k h
theorem Zp {α : Type} {A : Rep α} {v v' : Zd} {cs : List Value} {x : α} (hv : v.le v') (h : A.rel v cs x) : A.rel v' cs x := A.mono hv h
theorem Zqa {α : Type} (A : Rep α) {v : Zd} {cs : List Value} {x : α} (h : A.rel v cs x) : cs.all ZSa = true := A.flat h
theorem Atm {v v' : Zd} {b off : Nat} {cs : List Value} (h : v.le v') (k : At v b off cs) : At v' b off cs := At.mono h k
end Go.Eng
namespace Go.Eng
open Go.Proofs Go.RowKit
theorem ZXl : ZUf Tryz.prog 291 20 1 := ⟨5, fun _ => by kernel_rfl, fun _ => by kernel_rfl⟩
theorem Zzb : ZUf Tryz.prog 51 3 2 := ⟨50, fun _ => by kernel_rfl, fun _ => by kernel_rfl⟩
theorem Z2c : Zle Tryz.prog 211 212 .u64 .u32 := fun _ _ => by kernel_rfl
theorem ZGk : Zle Tryz.prog 211 5 .u64 .u8 := fun _ _ => by kernel_rfl
theorem ZZk : Zle Tryz.prog 212 2 .u32 .i64 := fun _ _ => by kernel_rfl
theorem Zuc : Zle Tryz.prog 212 211 .u32 .u64 := fun _ _ => by kernel_rfl
theorem ZKi : Zle Tryz.prog 2 211 .i64 .u64 := fun _ _ => by kernel_rfl
theorem ZVn : Zle Tryz.prog 2 212 .i64 .u32 := fun _ _ => by kernel_rfl
theorem Z3i : Zle Tryz.prog 3 253 .i64 .u64 := fun _ _ => by kernel_rfl
theorem k_cv5_3 : Zle Tryz.prog 5 3 .u8 .i64 := fun _ _ => by kernel_rfl
theorem Zcl : Elem Tryz.prog 263 9 1 16 (Value.string (Z1 [])) := ⟨Tryz.underlying263, by kernel_rfl, rfl, by decide⟩
theorem Zig : Elem Tryz.prog 28 3 1 8 (Value.int IntKind.i64 0) := ⟨Tryz.underlying28, by kernel_rfl, rfl, by decide⟩
theorem Zzc : Elem Tryz.prog 30 211 1 8 (Value.int IntKind.u64 0) := ⟨Tryz.underlying30, by kernel_rfl, rfl, by decide⟩
theorem Zqb : Elem Tryz.prog 40 212 1 4 (Value.int IntKind.u32 0) := ⟨Tryz.underlying40, by kernel_rfl, rfl, by decide⟩
theorem Zlm : Elem Tryz.prog 76 92 4 64 (Value.agg #[Value.bool false, Value.bool false, Value.slice none 0 0, Value.slice none 0 0]) := ⟨Tryz.underlying76, by kernel_rfl, rfl, by decide⟩
theorem Z1k : Elem Tryz.prog 77 198 4 64 (Value.agg #[Value.bool false, Value.bool false, Value.slice none 0 0, Value.slice none 0 0]) := ⟨Tryz.underlying77, by kernel_rfl, rfl, by decide⟩
theorem Zqf : Elem Tryz.prog 80 34 3 56 (Value.agg #[Value.bool false, Value.slice none 0 0, Value.slice none 0 0]) := ⟨Tryz.underlying80, by kernel_rfl, rfl, by decide⟩
theorem Zzi : Elem Tryz.prog 85 42 3 56 (Value.agg #[Value.bool false, Value.slice none 0 0, Value.slice none 0 0]) := ⟨Tryz.underlying85, by kernel_rfl, rfl, by decide⟩
theorem k_en100 : ZT Tryz.prog 100 := fun _ _ => by kernel_rfl
theorem ZBe : ZT Tryz.prog 101 := fun _ _ => by kernel_rfl
theorem ZYf : ZT Tryz.prog 102 := fun _ _ => by kernel_rfl
theorem ZCg : ZT Tryz.prog 103 := fun _ _ => by kernel_rfl
theorem Zwd : ZT Tryz.prog 104 := fun _ _ => by kernel_rfl
theorem k_en105 : ZT Tryz.prog 105 := fun _ _ => by kernel_rfl
theorem k_en106 : ZT Tryz.prog 106 := fun _ _ => by kernel_rfl
theorem ZCk : ZT Tryz.prog 108 := fun _ _ => by kernel_rfl
theorem Z5j : ZT Tryz.prog 109 := fun _ _ => by kernel_rfl
theorem ZOd : ZT Tryz.prog 110 := fun _ _ => by kernel_rfl
theorem Zee : ZT Tryz.prog 111 := fun _ _ => by kernel_rfl
theorem Zod : ZT Tryz.prog 112 := fun _ _ => by kernel_rfl
theorem k_en113 : ZT Tryz.prog 113 := fun _ _ => by kernel_rfl
theorem ZZg : ZT Tryz.prog 114 := fun _ _ => by kernel_rfl
theorem Zei : ZT Tryz.prog 115 := fun _ _ => by kernel_rfl
theorem k_en116 : ZT Tryz.prog 116 := fun _ _ => by kernel_rfl
theorem k_en117 : ZT Tryz.prog 117 := fun _ _ => by kernel_rfl
theorem k_en118 : ZT Tryz.prog 118 := fun _ _ => by kernel_rfl
theorem k_en119 : ZT Tryz.prog 119 := fun _ _ => by kernel_rfl
theorem k_en120 : ZT Tryz.prog 120 := fun _ _ => by kernel_rfl
theorem k_en121 : ZT Tryz.prog 121 := fun _ _ => by kernel_rfl
theorem Z6j : ZT Tryz.prog 124 := fun _ _ => by kernel_rfl
theorem Zsh : ZT Tryz.prog 126 := fun _ _ => by kernel_rfl
theorem k_en127 : ZT Tryz.prog 127 := fun _ _ => by kernel_rfl
theorem Znl : ZT Tryz.prog 137 := fun _ _ => by kernel_rfl
theorem k_en138 : ZT Tryz.prog 138 := fun _ _ => by kernel_rfl
theorem Zwe : ZT Tryz.prog 139 := fun _ _ => by kernel_rfl
theorem k_en140 : ZT Tryz.prog 140 := fun _ _ => by kernel_rfl
theorem k_en141 : ZT Tryz.prog 141 := fun _ _ => by kernel_rfl
theorem k_en142 : ZT Tryz.prog 142 := fun _ _ => by kernel_rfl
theorem Zqk : ZT Tryz.prog 143 := fun _ _ => by kernel_rfl
theorem k_en144 : ZT Tryz.prog 144 := fun _ _ => by kernel_rfl
theorem ZZh : ZT Tryz.prog 145 := fun _ _ => by kernel_rfl
theorem Zli : ZT Tryz.prog 146 := fun _ _ => by kernel_rfl
theorem ZKj : ZT Tryz.prog 147 := fun _ _ => by kernel_rfl
theorem ZBd : ZT Tryz.prog 149 := fun _ _ => by kernel_rfl
theorem Z9j : ZT Tryz.prog 15 := fun _ _ => by kernel_rfl
theorem ZIl : ZT Tryz.prog 150 := fun _ _ => by kernel_rfl
theorem ZNk : ZT Tryz.prog 151 := fun _ _ => by kernel_rfl
theorem k_en152 : ZT Tryz.prog 152 := fun _ _ => by kernel_rfl
theorem k_en154 : ZT Tryz.prog 154 := fun _ _ => by kernel_rfl
theorem ZJj : ZT Tryz.prog 155 := fun _ _ => by kernel_rfl
theorem ZPd : ZT Tryz.prog 156 := fun _ _ => by kernel_rfl
theorem k_en157 : ZT Tryz.prog 157 := fun _ _ => by kernel_rfl
theorem ZZl : ZT Tryz.prog 158 := fun _ _ => by kernel_rfl
theorem k_en159 : ZT Tryz.prog 159 := fun _ _ => by kernel_rfl
theorem k_en161 : ZT Tryz.prog 161 := fun _ _ => by kernel_rfl
theorem Zak : ZT Tryz.prog 167 := fun _ _ => by kernel_rfl
theorem k_en168 : ZT Tryz.prog 168 := fun _ _ => by kernel_rfl
theorem k_en169 : ZT Tryz.prog 169 := fun _ _ => by kernel_rfl
theorem k_en17 : ZT Tryz.prog 17 := fun _ _ => by kernel_rfl
theorem k_en170 : ZT Tryz.prog 170 := fun _ _ => by kernel_rfl
theorem k_en171 : ZT Tryz.prog 171 := fun _ _ => by kernel_rfl
theorem k_en172 : ZT Tryz.prog 172 := fun _ _ => by kernel_rfl
theorem k_en173 : ZT Tryz.prog 173 := fun _ _ => by kernel_rfl
theorem Zmk : ZT Tryz.prog 174 := fun _ _ => by kernel_rfl
theorem k_en175 : ZT Tryz.prog 175 := fun _ _ => by kernel_rfl
theorem ZHk : ZT Tryz.prog 176 := fun _ _ => by kernel_rfl
theorem ZPh : ZT Tryz.prog 177 := fun _ _ => by kernel_rfl
theorem k_en178 : ZT Tryz.prog 178 := fun _ _ => by kernel_rfl
theorem k_en179 : ZT Tryz.prog 179 := fun _ _ => by kernel_rfl
theorem k_en181 : ZT Tryz.prog 181 := fun _ _ => by kernel_rfl
theorem Zvl : ZT Tryz.prog 182 := fun _ _ => by kernel_rfl
theorem k_en183 : ZT Tryz.prog 183 := fun _ _ => by kernel_rfl
theorem k_en184 : ZT Tryz.prog 184 := fun _ _ => by kernel_rfl
theorem k_en185 : ZT Tryz.prog 185 := fun _ _ => by kernel_rfl
theorem Zuk : ZT Tryz.prog 190 := fun _ _ => by kernel_rfl
theorem k_en196 : ZT Tryz.prog 196 := fun _ _ => by kernel_rfl
theorem k_en197 : ZT Tryz.prog 197 := fun _ _ => by kernel_rfl
theorem k_en198 : ZT Tryz.prog 198 := fun _ _ => by kernel_rfl
theorem Zje : ZT Tryz.prog 20 := fun _ _ => by kernel_rfl
theorem ZVi : ZT Tryz.prog 21 := fun _ _ => by kernel_rfl
theorem Z2j : ZT Tryz.prog 25 := fun _ _ => by kernel_rfl
theorem k_en26 : ZT Tryz.prog 26 := fun _ _ => by kernel_rfl
theorem ZTe : ZT Tryz.prog 28 := fun _ _ => by kernel_rfl
theorem ZPe : ZT Tryz.prog 29 := fun _ _ => by kernel_rfl
theorem ZLe : ZT Tryz.prog 30 := fun _ _ => by kernel_rfl
theorem ZYe : ZT Tryz.prog 31 := fun _ _ => by kernel_rfl
theorem Z5g : ZT Tryz.prog 32 := fun _ _ => by kernel_rfl
theorem ZQf : ZT Tryz.prog 35 := fun _ _ => by kernel_rfl
theorem k_en37 : ZT Tryz.prog 37 := fun _ _ => by kernel_rfl
theorem k_en38 : ZT Tryz.prog 38 := fun _ _ => by kernel_rfl
theorem k_en39 : ZT Tryz.prog 39 := fun _ _ => by kernel_rfl
theorem ZSi : ZT Tryz.prog 41 := fun _ _ => by kernel_rfl
theorem k_en45 : ZT Tryz.prog 45 := fun _ _ => by kernel_rfl
theorem ZYl : ZT Tryz.prog 46 := fun _ _ => by kernel_rfl
theorem k_en47 : ZT Tryz.prog 47 := fun _ _ => by kernel_rfl
theorem k_en48 : ZT Tryz.prog 48 := fun _ _ => by kernel_rfl
theorem Zbl : ZT Tryz.prog 49 := fun _ _ => by kernel_rfl
theorem k_en50 : ZT Tryz.prog 50 := fun _ _ => by kernel_rfl
theorem k_en52 : ZT Tryz.prog 52 := fun _ _ => by kernel_rfl
theorem k_en54 : ZT Tryz.prog 54 := fun _ _ => by kernel_rfl
theorem Z0e : ZT Tryz.prog 61 := fun _ _ => by kernel_rfl
theorem Zcj : ZT Tryz.prog 62 := fun _ _ => by kernel_rfl
theorem Zjj : ZT Tryz.prog 64 := fun _ _ => by kernel_rfl
theorem ZRf : ZT Tryz.prog 80 := fun _ _ => by kernel_rfl
theorem k_en81 : ZT Tryz.prog 81 := fun _ _ => by kernel_rfl
theorem ZLl : ZT Tryz.prog 82 := fun _ _ => by kernel_rfl
theorem ZFc : ZT Tryz.prog 84 := fun _ _ => by kernel_rfl
theorem Zxd : ZT Tryz.prog 85 := fun _ _ => by kernel_rfl
theorem Zaf : ZT Tryz.prog 86 := fun _ _ => by kernel_rfl
theorem ZRj : ZT Tryz.prog 87 := fun _ _ => by kernel_rfl
theorem Z9h : ZT Tryz.prog 88 := fun _ _ => by kernel_rfl
theorem k_en89 : ZT Tryz.prog 89 := fun _ _ => by kernel_rfl
theorem k_en90 : ZT Tryz.prog 90 := fun _ _ => by kernel_rfl
theorem Ztk : ZT Tryz.prog 91 := fun _ _ => by kernel_rfl
theorem k_en93 : ZT Tryz.prog 93 := fun _ _ => by kernel_rfl
theorem Znm : ZT Tryz.prog 94 := fun _ _ => by kernel_rfl
theorem k_en97 : ZT Tryz.prog 97 := fun _ _ => by kernel_rfl
theorem k_en98 : ZT Tryz.prog 98 := fun _ _ => by kernel_rfl
theorem ZNg : ZT Tryz.prog 99 := fun _ _ => by kernel_rfl
theorem Zqm : EqB Tryz.prog 4 := fun _ _ _ => by kernel_rfl
theorem Z3f : ZJf Tryz.prog 148 add64Entry := ⟨_, Tryz.func148, by kernel_rfl, by kernel_rfl, by kernel_rfl, by kernel_rfl⟩
theorem ZFl : ZJf Tryz.prog 180 ZEj := ⟨_, Tryz.func180, by kernel_rfl, by kernel_rfl, by kernel_rfl, by kernel_rfl⟩
theorem Z5k : ZAb Tryz.prog 100 0 0 := fun _ _ _ => by kernel_rfl
theorem Z3e : ZAb Tryz.prog 100 1 3 := fun _ _ _ => by kernel_rfl
theorem ZDe : ZAb Tryz.prog 196 0 0 := fun _ _ _ => by kernel_rfl
theorem Zug : ZAb Tryz.prog 196 1 1 := fun _ _ _ => by kernel_rfl
theorem ZVe : ZAb Tryz.prog 198 0 0 := fun _ _ _ => by kernel_rfl
theorem ZEc : ZAb Tryz.prog 198 1 1 := fun _ _ _ => by kernel_rfl
theorem Zeb : ZAb Tryz.prog 32 0 0 := fun _ _ _ => by kernel_rfl
theorem Z7a : ZAb Tryz.prog 32 1 1 := fun _ _ _ => by kernel_rfl
theorem Zjb : ZAb Tryz.prog 34 0 0 := fun _ _ _ => by kernel_rfl
theorem ZGb : ZAb Tryz.prog 34 1 2 := fun _ _ _ => by kernel_rfl
theorem ZMa : ZAb Tryz.prog 42 0 0 := fun _ _ _ => by kernel_rfl
theorem Zac : ZAb Tryz.prog 42 1 1 := fun _ _ _ => by kernel_rfl
theorem Zdj : ZAb Tryz.prog 42 2 2 := fun _ _ _ => by kernel_rfl
theorem Z4g : ZAb Tryz.prog 50 0 0 := fun _ _ _ => by kernel_rfl
theorem Zbi : ZAb Tryz.prog 50 1 1 := fun _ _ _ => by kernel_rfl
theorem ZVh : ZAb Tryz.prog 53 0 0 := fun _ _ _ => by kernel_rfl
theorem ZKh : ZAb Tryz.prog 53 1 3 := fun _ _ _ => by kernel_rfl
theorem ZQn : ZAb Tryz.prog 53 2 6 := fun _ _ _ => by kernel_rfl
theorem Zuf : ZAb Tryz.prog 92 0 0 := fun _ _ _ => by kernel_rfl
theorem ZKc : ZAb Tryz.prog 92 1 1 := fun _ _ _ => by kernel_rfl
theorem Zka : Tryz.prog.follows .mixedOrders = true := by kernel_rfl
theorem Zyc : NeB Tryz.prog 4 := fun _ _ _ => by kernel_rfl
theorem Znb : Zec Tryz.prog 22 28 1 := ⟨fun _ => by kernel_rfl, fun _ => by kernel_rfl⟩
theorem Zaj : Zec Tryz.prog 263 9 1 := ⟨fun _ => by kernel_rfl, fun _ => by kernel_rfl⟩
theorem Z5b : Zec Tryz.prog 28 3 1 := ⟨fun _ => by kernel_rfl, fun _ => by kernel_rfl⟩
theorem ZU : Zec Tryz.prog 30 211 1 := ⟨fun _ => by kernel_rfl, fun _ => by kernel_rfl⟩
theorem Zca : Zec Tryz.prog 40 212 1 := ⟨fun _ => by kernel_rfl, fun _ => by kernel_rfl⟩
theorem Zoj : Zec Tryz.prog 75 196 3 := ⟨fun _ => by kernel_rfl, fun _ => by kernel_rfl⟩
theorem Z8a : Zec Tryz.prog 76 92 4 := ⟨fun _ => by kernel_rfl, fun _ => by kernel_rfl⟩
theorem Z6a : Zec Tryz.prog 77 198 4 := ⟨fun _ => by kernel_rfl, fun _ => by kernel_rfl⟩
theorem ZLb : Zec Tryz.prog 80 34 3 := ⟨fun _ => by kernel_rfl, fun _ => by kernel_rfl⟩
theorem Znh : Zec Tryz.prog 85 42 3 := ⟨fun _ => by kernel_rfl, fun _ => by kernel_rfl⟩
theorem Zql : Zec Tryz.prog 96 50 2 := ⟨fun _ => by kernel_rfl, fun _ => by kernel_rfl⟩
theorem ZWe : Sized Tryz.prog 100 4 true := ⟨fun _ => by kernel_rfl, fun _ => by kernel_rfl⟩
theorem Zfj : Sized Tryz.prog 102 4 true := ⟨fun _ => by kernel_rfl, fun _ => by kernel_rfl⟩
theorem Zul : Sized Tryz.prog 196 3 true := ⟨fun _ => by kernel_rfl, fun _ => by kernel_rfl⟩
theorem Zpe : Sized Tryz.prog 2 1 false := ⟨fun _ => by kernel_rfl, fun _ => by kernel_rfl⟩
theorem Zva : Sized Tryz.prog 211 1 false := ⟨fun _ => by kernel_rfl, fun _ => by kernel_rfl⟩
theorem Zgb : Sized Tryz.prog 212 1 false := ⟨fun _ => by kernel_rfl, fun _ => by kernel_rfl⟩
theorem Zge : Sized Tryz.prog 22 1 false := ⟨fun _ => by kernel_rfl, fun _ => by kernel_rfl⟩
theorem ZIh : Sized Tryz.prog 28 1 false := ⟨fun _ => by kernel_rfl, fun _ => by kernel_rfl⟩
theorem ZZc : Sized Tryz.prog 3 1 false := ⟨fun _ => by kernel_rfl, fun _ => by kernel_rfl⟩
theorem Zta : Sized Tryz.prog 30 1 false := ⟨fun _ => by kernel_rfl, fun _ => by kernel_rfl⟩
theorem ZJa : Sized Tryz.prog 32 2 true := ⟨fun _ => by kernel_rfl, fun _ => by kernel_rfl⟩
theorem Zv : Sized Tryz.prog 34 3 true := ⟨fun _ => by kernel_rfl, fun _ => by kernel_rfl⟩
theorem ZZ : Sized Tryz.prog 4 1 false := ⟨fun _ => by kernel_rfl, fun _ => by kernel_rfl⟩
theorem ZIb : Sized Tryz.prog 40 1 false := ⟨fun _ => by kernel_rfl, fun _ => by kernel_rfl⟩
theorem ZW : Sized Tryz.prog 42 3 true := ⟨fun _ => by kernel_rfl, fun _ => by kernel_rfl⟩
theorem k_sz5 : Sized Tryz.prog 5 1 false := ⟨fun _ => by kernel_rfl, fun _ => by kernel_rfl⟩
theorem ZPa : Sized Tryz.prog 50 2 true := ⟨fun _ => by kernel_rfl, fun _ => by kernel_rfl⟩
theorem ZQc : Sized Tryz.prog 53 9 true := ⟨fun _ => by kernel_rfl, fun _ => by kernel_rfl⟩
theorem Z2i : Sized Tryz.prog 55 9 true := ⟨fun _ => by kernel_rfl, fun _ => by kernel_rfl⟩
theorem Z1e : Sized Tryz.prog 80 1 false := ⟨fun _ => by kernel_rfl, fun _ => by kernel_rfl⟩
theorem k_sz9 : Sized Tryz.prog 9 1 false := ⟨fun _ => by kernel_rfl, fun _ => by kernel_rfl⟩
theorem Zgg : Sized Tryz.prog 92 4 true := ⟨fun _ => by kernel_rfl, fun _ => by kernel_rfl⟩
theorem ZTl : ∀ w, (zeroValue 100).run Tryz.prog w = .ok (Value.agg #[Value.bool false, Value.slice none 0 0, Value.slice none 0 0, Value.slice none 0 0]) w := fun _ => by kernel_rfl
theorem Zrl : ∀ w, (zeroValue 102).run Tryz.prog w = .ok (Value.agg #[Value.bool false, Value.slice none 0 0, Value.slice none 0 0, Value.slice none 0 0]) w := fun _ => by kernel_rfl
theorem k_zv196 : ∀ w, (zeroValue 196).run Tryz.prog w = .ok (Value.agg #[Value.bool false, Value.int IntKind.i64 0, Value.int IntKind.i64 0]) w := fun _ => by kernel_rfl
theorem k_zv270 : ∀ w, (zeroValue 270).run Tryz.prog w = .ok (Value.agg #[Value.pointer none, Value.slice none 0 0]) w := fun _ => by kernel_rfl
theorem k_zv291 : ∀ w, (zeroValue 291).run Tryz.prog w = .ok (Value.agg #[Value.int IntKind.u8 0, Value.int IntKind.u8 0, Value.int IntKind.u8 0, Value.int IntKind.u8 0, Value.int IntKind.u8 0, Value.int IntKind.u8 0, Value.int IntKind.u8 0, Value.int IntKind.u8 0, Value.int IntKind.u8 0, Value.int IntKind.u8 0, Value.int IntKind.u8 0, Value.int IntKind.u8 0, Value.int IntKind.u8 0, Value.int IntKind.u8 0, Value.int IntKind.u8 0, Value.int IntKind.u8 0, Value.int IntKind.u8 0, Value.int IntKind.u8 0, Value.int IntKind.u8 0, Value.int IntKind.u8 0]) w := fun _ => by kernel_rfl
theorem Z1c : ∀ w, (zeroValue 32).run Tryz.prog w = .ok (Value.agg #[Value.bool false, Value.slice none 0 0]) w := fun _ => by kernel_rfl
theorem ZAa : ∀ w, (zeroValue 34).run Tryz.prog w = .ok (Value.agg #[Value.bool false, Value.slice none 0 0, Value.slice none 0 0]) w := fun _ => by kernel_rfl
theorem Zrb : ∀ w, (zeroValue 42).run Tryz.prog w = .ok (Value.agg #[Value.bool false, Value.slice none 0 0, Value.slice none 0 0]) w := fun _ => by kernel_rfl
theorem k_zv50 : ∀ w, (zeroValue 50).run Tryz.prog w = .ok (Value.agg #[Value.int IntKind.i64 0, Value.int IntKind.i64 0]) w := fun _ => by kernel_rfl
theorem Zkm : ∀ w, (zeroValue 53).run Tryz.prog w = .ok (Value.agg #[Value.bool false, Value.slice none 0 0, Value.slice none 0 0, Value.bool false, Value.slice none 0 0, Value.slice none 0 0, Value.bool false, Value.slice none 0 0, Value.slice none 0 0]) w := fun _ => by kernel_rfl
theorem ZHl : ∀ w, (zeroValue 55).run Tryz.prog w = .ok (Value.agg #[Value.bool false, Value.slice none 0 0, Value.slice none 0 0, Value.bool false, Value.slice none 0 0, Value.slice none 0 0, Value.bool false, Value.slice none 0 0, Value.slice none 0 0]) w := fun _ => by kernel_rfl
theorem Zam : ∀ w, (zeroValue 92).run Tryz.prog w = .ok (Value.agg #[Value.bool false, Value.bool false, Value.slice none 0 0, Value.slice none 0 0]) w := fun _ => by kernel_rfl
theorem qzero_w {b : World} {a : Zd} (hv : VIn a b) {c : List Value} {x : Rat} (d : Rep.rel Zk a c x) {z : Bool} (H : ZSh x = some z) : Ret Tryz.prog 21 #[Zk.val c] b a (fun y v' => ∃ e, y = ZQ.val e ∧ ZQ.rel v' e z) := by
  obtain ⟨g, h, i, j, k, l, m, rfl⟩ := ZWa d; refine ZV (K := 8) (args := [.agg #[.bool g, .slice h i j, .slice k l m]]) hv Tryz.func21 rfl rfl zl fun f S => ?_; unfold ZSh at H; refine sr (ob S rfl (cs := [.bool g, .slice h i j, .slice k l m]) rfl fun p f w S => mw S rfl fun f S => oe (sr (ov S rfl (Zt S rfl Zjb) fun f S => ov S rfl (Zt S rfl Z7a) fun f S => ?_))); obtain ⟨n, q⟩ := ZDc d; obtain ⟨rfl, o⟩ := Zdc n; refine ov S rfl (lo S rfl Zta 0 rfl rfl) fun f S => ov S rfl (ZG S (Zs o) rfl rfl ZU) fun f S => ov S rfl (Zj S rfl rfl Zfa) fun f S => mw S rfl fun f S => oe (wp_ret ?_); obtain rfl := Zg H; refine Zz S (ZL rfl (ZF S rfl)) ⟨[.bool (((((Zi 18446744073709551616 ((x.num).natAbs))).length : Int)) == ((0 : Int)))], rfl, ZCa⟩
theorem Zbj {b : World} {a : Zd} (hv : VIn a b) {c : List Value} {x : Rat} (e : Rep.rel Zk a c x) {z : Bool} (hm : ZRe x = some z) :
    Ret Tryz.prog 21 #[Zk.val c] b a (fun y v' => ∃ d, y = ZQ.val d ∧ ZQ.rel v' d z) :=
  qzero_w hv e (ZIp hm)
theorem cut_w {e : World} {d : Zd} (hv : VIn d e) {E : List Value} {a : (List Int)} (F : Rep.rel (Zu (Zb .u64)) d E a) {z : (List Int)} (H : Z7h a = some z) : Ret Tryz.prog 149 #[(Zu (Zb .u64)).val E] e d (fun y v' => ∃ G, y = (Zu (Zb .u64)).val G ∧ (Zu (Zb .u64)).rel v' G z) := by
  obtain ⟨M, N, O, rfl⟩ := Zwa F; refine ZV (K := 21) (args := [.slice M (N) O]) hv Tryz.func149 rfl rfl zl fun f S => ?_; unfold Z7h at H; refine sr ?_; have S := S.nilLoc 211 1; refine ov S rfl (Zja S (y := .slice (mkA none) 0 0) rfl) fun f S => oe (Zf fun _ P => ?_); obtain ⟨Q, R, T⟩ := Za H; refine ZO (fun f w => ∃ (B : (List Int)) (j : Option Addr) (k : Nat) (l : Nat) (m : Zd), B = Q ∧ Zd.le d m ∧ St 21 e d [(0, .slice j (k) l)] [] m f w ∧ Rep.rel (Zu (Zb .u64)) m [.slice j (k) l] B) (fun _ U => ?_) ?_
  · have H := R; refine wp_block ?_; obtain ⟨am, V, W⟩ := Za H; have S := S.reorder (ℓ' := []) [] rfl (by decide); refine Zna V (fun X f w => ∃ (n : (List Int)) (o : Option Addr) (q : Nat) (s : Nat) (g : Zd), n = X ∧ Zd.le d g ∧ St 21 e d [(0, .slice o (q) s)] [] g f w ∧ Rep.rel (Zu (Zb .u64)) g [.slice o (q) s] n) ⟨_, _, _, _, _, rfl, (leR _), (S.fr' rfl), F⟩ ?_; rintro _ f w st ⟨n, o, q, s, g, hq, I, S, c⟩ H an Y Z; subst hq; refine Zf fun _ aa => Zf fun _ ab => ?_; obtain ⟨ac, ad, ae⟩ := Za H; refine ZO (fun f w => ∃ (u : Bool) (C : Zd), u = ac ∧ Zd.le g C ∧ St 21 e d [(0, .slice o (q) s), (14, .bool (u))] [] C f w) (fun _ J => ?_) ?_
    · have H := ad; rcases Zw (decide ((0 : Int) < (n.length : Int))) with h | h
      · have H := Zy H h; obtain ⟨ao, af, H⟩ := Za H; obtain ⟨ap, D, H⟩ := Za H; refine Zm (mv S rfl fun f S => ov S rfl (ZG S (Zs c) rfl rfl ZU) fun f S => ov S rfl (Zj S rfl rfl ZDa) fun f S => ?_); have S := S.bool (t := 5) rfl h; refine mv S rfl fun f S => opy S rfl rfl rfl rfl (Zn S rfl) fun f S => opy S rfl rfl rfl rfl (Zn S rfl) fun f S => opy S rfl rfl rfl rfl (ZG S (Zs c) rfl rfl ZU) fun f S => opy S rfl rfl rfl rfl (Zj S rfl rfl (Zra af)) fun f S => ?_; obtain ⟨_, aq, ar, au, rfl, ag, ah⟩ := Zga c (Zh D).2.1; obtain ⟨rfl, av⟩ := ah; refine opy S rfl rfl rfl rfl (ZJ S rfl rfl ZU (Zh D).1 (ltI (Zs c) (Zh D).2.2.1)) fun f S => opy S rfl rfl rfl rfl (ZY S rfl Zva (S.view ag)) fun f S => opy S rfl rfl rfl rfl (Zj S rfl rfl Zfa) fun f S => ov S rfl (ZP S (b := true) rfl rfl) fun f S => Zl ?_; obtain rfl := Zg H; refine Zc (J _ _ ⟨_, _, rfl, (leR _), (S.fr' rfl)⟩)
      have H := Zx H h; refine Zm (mv S rfl fun f S => ov S rfl (ZG S (Zs c) rfl rfl ZU) fun f S => ov S rfl (Zj S rfl rfl ZDa) fun f S => ?_); have S := S.bool (t := 5) rfl h; refine mv S rfl fun f S => opn S rfl rfl rfl rfl fun f S => opn S rfl rfl rfl rfl fun f S => opn S rfl rfl rfl rfl fun f S => opn S rfl rfl rfl rfl fun f S => opn S rfl rfl rfl rfl fun f S => opn S rfl rfl rfl rfl fun f S => opn S rfl rfl rfl rfl fun f S => ov S rfl (ZP S (b := false) rfl rfl) fun f S => Zl ?_; obtain rfl := Zg H; refine Zc (J _ _ ⟨_, _, rfl, (leR _), (S.fr' rfl)⟩)
    rintro f w ⟨u, C, hq, v, S⟩; subst hq; have H := ae; refine Zc (ab _ _ ?_); rcases Zw (u) with i | i
    · have H := Zy H i; refine ZD S rfl i (wp_skip (Zc (aa _ _ (wp_block ?_)))); obtain ⟨ai, aj, H⟩ := Za H; obtain ⟨aw, x, H⟩ := Za H; refine Zm (mv S rfl fun f S => mv S rfl fun f S => ?_); have c := Zp v c; refine ov S rfl (ZG S (Zs c) rfl rfl ZU) fun f S => ov S rfl (Zj S rfl rfl (Zra aj)) fun f S => ?_; obtain ⟨ax, ay, ak, L⟩ := Zsg S (A := (Zb .u64)) (p := (0 : Int)) (r := ai) ZU c (Zhb x).1 (Zhb x).2.1 (Zhb x).2.2.1; rw [← (Zhb x).2.2.2.1] at L; refine ov S rfl (ak rfl (.inl ⟨rfl, rfl⟩) (.inr ⟨_, _, rfl, rfl⟩)) fun f S => mw S rfl fun f S => Zl (Zma ?_); obtain rfl := Zg H; refine Y _ rfl _ _ ⟨_, _, _, _, _, rfl, (leT I v), (S.fr' rfl), L⟩
    have H := Zx H i; refine ZC S rfl i (wp_exit (ZN ?_)); obtain rfl := Zg H; have hq := Z _ rfl; subst hq; have H := W; refine ZN (Zha ?_); obtain rfl := Zg H; have c := Zp v c; refine Zc (U _ _ ⟨_, _, _, _, _, rfl, (leT (leT (leR _) I) v), (S.fr' rfl), c⟩)
  rintro f w ⟨B, j, k, l, m, hq, az, S, al⟩; subst hq; have H := T; refine Zc (P _ _ (sr (mv S rfl fun f S => mw S rfl fun f S => oe (wp_ret ?_)))); obtain rfl := Zg H; refine Zz S (ZL rfl (ZF S rfl)) ⟨[.slice j (k) l], rfl, al⟩
theorem Zrd {d : World} {b : Zd} (hv : VIn b d) {e : List Value} {a : (List Int)} (c : Rep.rel (Zu (Zb .u64)) b e a) {z : Nat} (hm : Zvb a = some z) :
    Ret Tryz.prog 149 #[(Zu (Zb .u64)).val e] d b (fun y v' => ∃ f, y = ZB.val f ∧ ZB.rel v' f z) :=
  by cases hm; exact cut_w hv c (cut_eq (Zwj c).1 (Zwj c).2)
theorem word_w {b : World} {a : Zd} (hv : VIn a b) {c : List Value} {n : Int} (h : Rep.rel (Zb .u64) a c n) {z : Nat} (H : Zxi n = some z) : Ret Tryz.prog 139 #[(Zb .u64).val c] b a (fun y v' => ∃ d, y = ZB.val d ∧ ZB.rel v' d z) := by
  obtain ⟨rfl, j⟩ := h; refine ZV (K := 6) (args := [.int .u64 (n)]) hv Tryz.func139 rfl rfl zl fun f S => ?_; unfold Zxi at H; refine sr (mw S rfl fun f S => oe (Zf fun _ k => ?_)); obtain ⟨u, m, H⟩ := Za H; refine Zm (mv S rfl fun f S => ?_); obtain ⟨e, w, o, S⟩ := ZTa S (n := 1) (cs := [.int .u64 (n)]) (vals := [(0, .int .u64 (n))]) (sz := 1) rfl (by decide) (Zob Zzc (x := .int .u64 (n)) (cs := [.int .u64 (n)]) rfl rfl (by decide)); have p : Rep.rels (Zb .u64) a [.int .u64 (n)] [n] := (ZOa (Zr j) Zza); refine Zpa wn rfl zl (o rfl) S fun f S => ?_; obtain ⟨v, B, S, q⟩ := S.pubSlice (i := 0) (A := (Zb .u64)) (l := [n]) (ℓ' := []) rfl rfl rfl p rfl; refine opc S rfl (Zo S [.slice (mkA (some e)) (1) 1] ZBd rfl rfl) (Zrd S.vin (show Rep.rel (Zu (Zb .u64)) _ [.slice (mkA (some e)) (1) 1] ([n]) from q) m) ?_; rintro _ C f w D ⟨E, rfl, g⟩ S; obtain ⟨r, s, t, rfl⟩ := Z5 g; refine mw S rfl fun f S => Zl (Zc (k _ _ (wp_ret ?_))); obtain rfl := Zg H; refine Zz S (ZL rfl (ZF S rfl)) ⟨[.slice r s t], rfl, g⟩
theorem Zre {b : World} {a : Zd} (hv : VIn a b) {c : List Value} {n : Int} (e : Rep.rel (Zb .u64) a c n) {z : Nat} (hm : ZWb n = some z) :
    Ret Tryz.prog 139 #[(Zb .u64).val c] b a (fun y v' => ∃ d, y = ZB.val d ∧ ZB.rel v' d z) :=
  word_w hv e (Zcp hm)
theorem of_w {k : World} {j : Zd} (hv : VIn j k) {l : List Value} {n : Int} (q : Rep.rel (Zb .i64) j l n) {z : Int} (H : of_m n = some z) : Ret Tryz.prog 88 #[(Zb .i64).val l] k j (fun y v' => ∃ m, y = Z8.val m ∧ Z8.rel v' m z) := by
  obtain ⟨rfl, G⟩ := q; refine ZV (K := 14) (args := [.int .i64 (n)]) hv Tryz.func88 rfl rfl zl fun f S => ?_; unfold of_m at H; refine sr (Z7 S wn rfl zl (cs := [.bool false, .slice none 0 0]) (ZX Z1c) fun I f w S => oe (Zf fun _ r => sr (mv S rfl fun f S => ov S rfl (Zj S rfl rfl Zba) fun f S => oe ?_))); rcases Zw (decide (n < (0 : Int))) with a | a
  · have H := Zy H a; refine ZD S rfl a (Zf fun _ t => ?_); obtain ⟨J, u, H⟩ := Za H; refine Zm (mv S rfl fun f S => ov S rfl (ZIa S rfl (ZKi _)) fun f S => ov S rfl (Zpm S rfl) fun f S => opc S rfl (Zo S [.int .u64 (IntKind.u64.wrap (-(IntKind.u64.wrap n)))] Zwe rfl rfl) (Zre S.vin (show Rep.rel (Zb .u64) _ [.int .u64 (IntKind.u64.wrap (-(IntKind.u64.wrap n)))] (IntKind.u64.wrap (-(IntKind.u64.wrap n))) from (Zr (Zua _ _))) u) ?_); rintro _ L f w M ⟨N, rfl, o⟩ S; obtain ⟨b, c, d, rfl⟩ := Z5 o; refine ov S rfl (ZKa S [(0, .bool (true)), (1, .slice b c d)] rfl (z := .agg #[.bool (true), .slice b c d]) (by kernel_rfl)) fun f S => ?_; obtain ⟨w, v, S⟩ := sbp S [.bool (true), .slice b c d] ZJa 0 0 rfl; refine Z0 wn rfl (v rfl rfl) (Zl (Zc (t _ _ (wp_ret (ZM ?_))))); obtain ⟨O, x, H⟩ := Za H; have A := ZTh (s := true) o x; obtain rfl := Zg H; refine Zz S (ZL rfl (Zrc S rfl ZJa rfl (S.box (i := 0) rfl 0 [.bool (true), .slice b c d] rfl))) ⟨[.bool (true), .slice b c d], rfl, A⟩
  have H := Zx H a; refine ZC S rfl a (wp_skip (Zc (r _ _ (Zf fun _ B => ?_)))); obtain ⟨P, C, H⟩ := Za H; refine Zm (mv S rfl fun f S => ov S rfl (ZIa S rfl (ZKi _)) fun f S => opc S rfl (Zo S [.int .u64 (IntKind.u64.wrap n)] Zwe rfl rfl) (Zre S.vin (show Rep.rel (Zb .u64) _ [.int .u64 (IntKind.u64.wrap n)] (IntKind.u64.wrap n) from (Zr (Zua _ _))) C) ?_); rintro _ Q f w R ⟨T, rfl, p⟩ S; obtain ⟨e, g, h, rfl⟩ := Z5 p; refine ov S rfl (ZKa S [(0, .bool (false)), (1, .slice e g h)] rfl (z := .agg #[.bool (false), .slice e g h]) (by kernel_rfl)) fun f S => ?_; obtain ⟨w, D, S⟩ := sbp S [.bool (false), .slice e g h] ZJa 0 0 rfl; refine Z0 wn rfl (D rfl rfl) (Zl (Zc (B _ _ (wp_ret ?_)))); obtain ⟨U, E, H⟩ := Za H; have F := ZTh (s := false) p E; obtain rfl := Zg H; refine Zz S (ZL rfl (Zrc S rfl ZJa rfl (S.box (i := 0) rfl 0 [.bool (false), .slice e g h] rfl))) ⟨[.bool (false), .slice e g h], rfl, F⟩
theorem of_c {b : World} {a : Zd} (hv : VIn a b) {c : List Value} {n : Int} (d : Rep.rel (Zb .i64) a c n) {z : Int} (hm : ofF n = some z) :
    Ret Tryz.prog 88 #[(Zb .i64).val c] b a (fun y v' => ∃ e, y = Z8.val e ∧ Z8.rel v' e z) :=
  of_w hv d (ofF_eq d.2 hm)
theorem qint_w {g : World} {e : Zd} (hv : VIn e g) {h : List Value} {n : Int} (k : Rep.rel (Zb .i64) e h n) {z : Rat} (H : ZXh n = some z) : Ret Tryz.prog 20 #[(Zb .i64).val h] g e (fun y v' => ∃ i, y = Zk.val i ∧ Zk.rel v' i z) := by
  obtain ⟨rfl, l⟩ := k; refine ZV (K := 6) (args := [.int .i64 (n)]) hv Tryz.func20 rfl rfl zl fun f S => ?_; unfold ZXh at H; refine sr (Z7 S wn rfl zl (cs := [.bool false, .slice none 0 0, .slice none 0 0]) (ZX ZAa) fun s f w S => oe (Zf fun _ m => ?_)); obtain ⟨t, o, H⟩ := Za H; refine Zm (mv S rfl fun f S => opc S rfl (Zo S [.int .i64 (n)] Z9h rfl rfl) (of_c S.vin (show Rep.rel (Zb .i64) _ [.int .i64 (n)] n from (Zr l)) o) ?_); rintro _ u f w v ⟨x, rfl, j⟩ S; obtain ⟨a, b, c, d, rfl⟩ := ZUa j; refine ov S rfl (ZKa S [(0, .agg #[.bool a, .slice b c d])] rfl (z := .agg #[.bool a, .slice b c d, .slice none 0 0]) (by kernel_rfl)) fun f S => ?_; obtain ⟨w, p, S⟩ := sbp S [.bool a, .slice b c d, .slice none 0 0] Zv 0 0 rfl; refine Z0 wn rfl (p rfl rfl) (Zl (Zc (m _ _ (wp_ret ?_)))); obtain ⟨A, q, H⟩ := Za H; have r := Zai j (ZIf _) q; obtain rfl := Zg H; refine Zz S (ZL rfl (Zsa S rfl Zv 0 rfl rfl)) ⟨[.bool a, .slice b c d, .slice none 0 0], rfl, r⟩
theorem Zue {b : World} {a : Zd} (hv : VIn a b) {c : List Value} {n : Int} (e : Rep.rel (Zb .i64) a c n) {z : Rat} (hm : Zgd n = some z) :
    Ret Tryz.prog 20 #[(Zb .i64).val c] b a (fun y v' => ∃ d, y = Zk.val d ∧ Zk.rel v' d z) :=
  qint_w hv e (Zym hm)
theorem len64_w {b : World} {a : Zd} (hv : VIn a b) {q : List Value} {x : Int} (J : Rep.rel (Zb .u64) a q x) {z : Int} (H : ZZf x = some z) : Ret Tryz.prog 196 #[(Zb .u64).val q] b a (fun y v' => ∃ r, y = (Zb .i64).val r ∧ (Zb .i64).rel v' r z) := by
  obtain ⟨rfl, s⟩ := J; refine ZV (K := 25) (args := [.int .u64 (x)]) hv Tryz.func196 rfl rfl zl fun f S => ?_; unfold ZZf at H; refine sr (mw S rfl fun f S => oe (Zf fun _ L => sr (mv S rfl fun f S => ov S rfl (Zj S rfl rfl Zib) fun f S => oe ?_))); obtain ⟨M, N, O⟩ := Za H; refine ZO (fun f w => ∃ (c : Int) (i : Int) (j : Zd), (c, i) = M ∧ Zd.le a j ∧ St 25 b a [(0, .int .u64 (c)), (2, .int .i64 (i))] [] j f w ∧ inR .u64 c ∧ inR .i64 i) (fun _ t => ?_) ?_
  · have H := N; rcases Zw (decide ((4294967296 : Int) ≤ x)) with d | d
    · have H := Zy H d; refine ZD S rfl d (Zf fun _ P => ?_); obtain ⟨ag, u, H⟩ := Za H; refine Zm (mv S rfl fun f S => ov S rfl (Zj S rfl rfl (ZBb u)) fun f S => mw S rfl fun f S => Zl (Zc (P _ _ (Zm (mw S rfl fun f S => Zl ?_))))); obtain rfl := Zg H; refine Zc (t _ _ ⟨_, _, _, rfl, (leR _), (S.fr' rfl), (Zpd s u), (by decide)⟩)
    have H := Zx H d; refine ZC S rfl d (wp_skip ?_); obtain rfl := Zg H; refine Zc (t _ _ ⟨_, _, _, rfl, (leR _), (S.fr' rfl), s, (by decide)⟩)
  rintro f w ⟨c, i, j, hq, ah, S, v, Q⟩; subst hq; have H := O; refine Zc (L _ _ (Zf fun _ R => sr (mv S rfl fun f S => ov S rfl (Zj S rfl rfl Zib) fun f S => oe ?_))); obtain ⟨T, U, V⟩ := Za H; refine ZO (fun f w => ∃ (e : Int) (k : Int) (m : Zd), (e, k) = T ∧ Zd.le j m ∧ St 25 b a [(0, .int .u64 (e)), (2, .int .i64 (k))] [] m f w ∧ inR .u64 e ∧ inR .i64 k) (fun _ A => ?_) ?_
  · have H := U; rcases Zw (decide ((65536 : Int) ≤ c)) with g | g
    · have H := Zy H g; refine ZD S rfl g (Zf fun _ W => ?_); obtain ⟨ai, B, H⟩ := Za H; refine Zm (mv S rfl fun f S => ov S rfl (Zj S rfl rfl (ZBb B)) fun f S => mw S rfl fun f S => Zl (Zc (W _ _ ?_))); obtain ⟨aj, C, H⟩ := Za H; refine Zm (mv S rfl fun f S => ov S rfl (Zj S rfl rfl (Z9 C)) fun f S => mw S rfl fun f S => Zl ?_); obtain rfl := Zg H; refine Zc (A _ _ ⟨_, _, _, rfl, (leR _), (S.fr' rfl), (Zpd v B), (Z2 C).2⟩)
    have H := Zx H g; refine ZC S rfl g (wp_skip ?_); obtain rfl := Zg H; refine Zc (A _ _ ⟨_, _, _, rfl, (leR _), (S.fr' rfl), v, Q⟩)
  rintro f w ⟨e, k, m, hq, ak, S, D, X⟩; subst hq; have H := V; refine Zc (R _ _ (Zf fun _ Y => sr (mv S rfl fun f S => ov S rfl (Zj S rfl rfl Zib) fun f S => oe ?_))); obtain ⟨Z, aa, ab⟩ := Za H; refine ZO (fun f w => ∃ (n : Int) (o : Int) (p : Zd), (n, o) = Z ∧ Zd.le m p ∧ St 25 b a [(0, .int .u64 (n)), (2, .int .i64 (o))] [] p f w ∧ inR .u64 n ∧ inR .i64 o) (fun _ E => ?_) ?_
  · have H := aa; rcases Zw (decide ((256 : Int) ≤ e)) with h | h
    · have H := Zy H h; refine ZD S rfl h (Zf fun _ ac => ?_); obtain ⟨al, F, H⟩ := Za H; refine Zm (mv S rfl fun f S => ov S rfl (Zj S rfl rfl (ZBb F)) fun f S => mw S rfl fun f S => Zl (Zc (ac _ _ ?_))); obtain ⟨am, G, H⟩ := Za H; refine Zm (mv S rfl fun f S => ov S rfl (Zj S rfl rfl (Z9 G)) fun f S => mw S rfl fun f S => Zl ?_); obtain rfl := Zg H; refine Zc (E _ _ ⟨_, _, _, rfl, (leR _), (S.fr' rfl), (Zpd D F), (Z2 G).2⟩)
    have H := Zx H h; refine ZC S rfl h (wp_skip ?_); obtain rfl := Zg H; refine Zc (E _ _ ⟨_, _, _, rfl, (leR _), (S.fr' rfl), D, X⟩)
  rintro f w ⟨n, o, p, hq, an, S, ao, ap⟩; subst hq; have H := ab; refine Zc (Y _ _ (Zf fun _ ad => ?_)); obtain ⟨aq, ae, H⟩ := Za H; obtain ⟨af, I, H⟩ := Za H; refine Zm (mv S rfl fun f S => mv S rfl fun f S => ov S rfl (ZIa S rfl (ZGk _)) fun f S => ov S rfl (ZDo S (l := ([0, 1, 2, 2, 3, 3, 3, 3, 4, 4, 4, 4, 4, 4, 4, 4, 5, 5, 5, 5, 5, 5, 5, 5, 5, 5, 5, 5, 5, 5, 5, 5, 6, 6, 6, 6, 6, 6, 6, 6, 6, 6, 6, 6, 6, 6, 6, 6, 6, 6, 6, 6, 6, 6, 6, 6, 6, 6, 6, 6, 6, 6, 6, 6, 7, 7, 7, 7, 7, 7, 7, 7, 7, 7, 7, 7, 7, 7, 7, 7, 7, 7, 7, 7, 7, 7, 7, 7, 7, 7, 7, 7, 7, 7, 7, 7, 7, 7, 7, 7, 7, 7, 7, 7, 7, 7, 7, 7, 7, 7, 7, 7, 7, 7, 7, 7, 7, 7, 7, 7, 7, 7, 7, 7, 7, 7, 7, 7, 8, 8, 8, 8, 8, 8, 8, 8, 8, 8, 8, 8, 8, 8, 8, 8, 8, 8, 8, 8, 8, 8, 8, 8, 8, 8, 8, 8, 8, 8, 8, 8, 8, 8, 8, 8, 8, 8, 8, 8, 8, 8, 8, 8, 8, 8, 8, 8, 8, 8, 8, 8, 8, 8, 8, 8, 8, 8, 8, 8, 8, 8, 8, 8, 8, 8, 8, 8, 8, 8, 8, 8, 8, 8, 8, 8, 8, 8, 8, 8, 8, 8, 8, 8, 8, 8, 8, 8, 8, 8, 8, 8, 8, 8, 8, 8, 8, 8, 8, 8, 8, 8, 8, 8, 8, 8, 8, 8, 8, 8, 8, 8, 8, 8, 8, 8, 8, 8, 8, 8, 8, 8, 8, 8, 8, 8, 8, 8] : List UInt8)) (by kernel_rfl) rfl Tryz.underlying9 ae) fun f S => ov S rfl (ZIa S rfl (k_cv5_3 _)) fun f S => ov S rfl (Zj S rfl rfl (Z9 I)) fun f S => mw S rfl fun f S => Zl (Zc (ad _ _ (wp_ret ?_)))); obtain rfl := Zg H; refine Zz S (ZL rfl (ZF S rfl)) ⟨[.int .i64 (af)], rfl, (Zr (Z2 I).2)⟩
theorem len64_c {b : World} {a : Zd} (hv : VIn a b) {c : List Value} {x : Int} (e : Rep.rel (Zb .u64) a c x) {z : Int} (hm : ZUg x = some z) :
    Ret Tryz.prog 196 #[(Zb .u64).val c] b a (fun y v' => ∃ d, y = (Zb .i64).val d ∧ (Zb .i64).rel v' d z) :=
  len64_w hv e (Z4n hm)
theorem lz64_w {b : World} {a : Zd} (hv : VIn a b) {c : List Value} {x : Int} (g : Rep.rel (Zb .u64) a c x) {z : Int} (H : Zdh x = some z) : Ret Tryz.prog 176 #[(Zb .u64).val c] b a (fun y v' => ∃ d, y = (Zb .i64).val d ∧ (Zb .i64).rel v' d z) := by
  obtain ⟨rfl, h⟩ := g; refine ZV (K := 6) (args := [.int .u64 (x)]) hv Tryz.func176 rfl rfl zl fun f S => ?_; unfold Zdh at H; refine sr (mw S rfl fun f S => oe (Zf fun _ i => ?_)); obtain ⟨m, j, H⟩ := Za H; obtain ⟨k, e, H⟩ := Za H; refine Zm (mv S rfl fun f S => opc S rfl (Zo S [.int .u64 (x)] k_en196 rfl rfl) (len64_c S.vin (show Rep.rel (Zb .u64) _ [.int .u64 (x)] x from (Zr h)) j) ?_); rintro _ n f w o ⟨p, rfl, l⟩ S; obtain ⟨rfl, q⟩ := l; refine ov S rfl (Zj S rfl rfl (Zra e)) fun f S => mw S rfl fun f S => Zl (Zc (i _ _ (wp_ret ?_))); obtain rfl := Zg H; refine Zz S (ZL rfl (ZF S rfl)) ⟨[.int .i64 (k)], rfl, (Zr (Z2 e).2)⟩
theorem ZQl {b : World} {a : Zd} (hv : VIn a b) {c : List Value} {x : Int} (e : Rep.rel (Zb .u64) a c x) {z : Int} (hm : ZZd x = some z) :
    Ret Tryz.prog 176 #[(Zb .u64).val c] b a (fun y v' => ∃ d, y = (Zb .i64).val d ∧ (Zb .i64).rel v' d z) :=
  lz64_w hv e (ZVm hm)
theorem div64_w {e : World} {c : Zd} (hv : VIn c e) {X : List Value} {hi : Int} (p0 : Rep.rel (Zb .u64) c X hi) {Y : List Value} {lo : Int} (p1 : Rep.rel (Zb .u64) c Y lo) {Z : List Value} {y : Int} (p2 : Rep.rel (Zb .u64) c Z y) {z : Int × Int} (H : ZPg hi lo y = some z) : Ret Tryz.prog 190 #[(Zb .u64).val X, (Zb .u64).val Y, (Zb .u64).val Z] e c (fun y v' => ∃ r0 M, y = .tuple #[(Zb .u64).val r0, (Zb .u64).val M] ∧ (Zb .u64).rel v' r0 z.1 ∧ (Zb .u64).rel v' M z.2) := by
  obtain ⟨rfl, M⟩ := p0; obtain ⟨rfl, r2⟩ := p1; obtain ⟨rfl, r3⟩ := p2; refine ZV (K := 135) (args := [.int .u64 (hi), .int .u64 (lo), .int .u64 (y)]) hv Tryz.func190 rfl rfl zl fun f S => ?_; unfold ZPg at H; refine sr (mw S rfl fun f S => mw S rfl fun f S => oe (Zf fun _ an => sr (mv S rfl fun f S => ov S rfl (Zj S rfl rfl Zfa) fun f S => oe ?_))); rcases Zw (y == ((0 : Int))) with q | q
  · have H := Zy H q; refine ZD S rfl q ?_
    cases H
  have H := Zx H q; refine ZC S rfl q (wp_skip (Zc (an _ _ (Zf fun _ ao => sr (mv S rfl fun f S => mv S rfl fun f S => ov S rfl (Zj S rfl rfl Z1d) fun f S => oe ?_))))); rcases Zw (decide (y ≤ hi)) with r | r
  · have H := Zy H r; refine ZD S rfl r ?_
    cases H
  have H := Zx H r; refine ZC S rfl r (wp_skip (Zc (ao _ _ (Zf fun _ ap => sr (mv S rfl fun f S => ov S rfl (Zj S rfl rfl Zfa) fun f S => oe ?_))))); rcases Zw (hi == ((0 : Int))) with s | s
  · have H := Zy H s; refine ZD S rfl s (Zf fun _ aq => ?_); obtain ⟨ar, aa, H⟩ := Za H; obtain ⟨au, N, H⟩ := Za H; refine Zla (fl := #[true, true, true, true, true, true, false, false]) Zka (by kernel_rfl) S ?_; intro ops O F w S; refine rfa O F 0 rfl rfl S (Zn S rfl) fun f S => rfa O F 1 rfl rfl S (Zn S rfl) fun f S => rfa O F 2 rfl rfl S (Zj S rfl rfl (ZTb aa)) fun f S => rfa O F 3 rfl rfl S (Zn S rfl) fun f S => rfa O F 4 rfl rfl S (Zn S rfl) fun f S => rfa O F 5 rfl rfl S (Zj S rfl rfl (Zsc N)) fun f S => go1 O F 6 (nva [0, 1, 2] [3, 4, 5] O rfl rfl S (Zja S rfl) fun f S => ⟨(py S rfl rfl (Zn S rfl) (py S rfl rfl (Zn S rfl) (py S rfl rfl (Zj S rfl rfl (Zsc N)) Zq))), go1 O F 7 (nva [0, 1, 2, 3, 4, 5, 6] [] O rfl rfl S (Zja S rfl) fun f S => ⟨Zq, Z6 O F (Zc (aq _ _ ?_))⟩)⟩); refine wp_ret (ZM ?_); obtain rfl := Zg H; refine Zz S (Zxa rfl (ZF S rfl) (ZF S rfl)) ⟨[.int .u64 (ar)], [.int .u64 (au)], rfl, (Zr (Z5e aa)), (Zr (ZHj r2 N))⟩
  have H := Zx H s; refine ZC S rfl s (wp_skip (Zc (ap _ _ (Zf fun _ av => ?_)))); obtain ⟨h, aw, H⟩ := Za H; refine Zm (mv S rfl fun f S => opc S rfl (Zo S [.int .u64 (y)] ZHk rfl rfl) (ZQl S.vin (show Rep.rel (Zb .u64) _ [.int .u64 (y)] y from (Zr r3)) aw) ?_); rintro _ ab f w bd ⟨be, rfl, ax⟩ S; obtain ⟨rfl, bf⟩ := ax; refine ov S rfl (ZIa S rfl (Z3i _)) fun f S => mw S rfl fun f S => Zl (Zc (av _ _ (Zf fun _ ay => ?_))); obtain ⟨a, az, H⟩ := Za H; refine Zm (mv S rfl fun f S => mv S rfl fun f S => ov S rfl (Zj S rfl rfl (ZRd az)) fun f S => mw S rfl fun f S => Zl (Zc (ay _ _ (Zf fun _ aA => ?_)))); obtain ⟨g, aB, H⟩ := Za H; refine Zm (mv S rfl fun f S => ov S rfl (Zj S rfl rfl (ZBb aB)) fun f S => mw S rfl fun f S => Zl (Zc (aA _ _ (sr (mv S rfl fun f S => ov S rfl (Zj S rfl rfl ZPf) fun f S => mw S rfl fun f S => oe (Zf fun _ aC => ?_)))))); obtain ⟨i, aD, H⟩ := Za H; obtain ⟨j, aE, H⟩ := Za H; refine Zm (mv S rfl fun f S => mv S rfl fun f S => ov S rfl (Zj S rfl rfl (ZRd aD)) fun f S => mv S rfl fun f S => mv S rfl fun f S => ov S rfl (Zj S rfl rfl ZId) fun f S => ov S rfl (Zj S rfl rfl (ZBb aE)) fun f S => ov S rfl (Zj S rfl rfl ZKe) fun f S => mw S rfl fun f S => Zl ?_); have S := S.fr' (σ' := [(1, .int .u64 (lo)), (2, .int .u64 (a)), (8, .int .u64 (IntKind.u64.wrap h)), (9, .int .u64 (g)), (10, .int .u64 (ZNa .u64 a ((4294967295 : Int)))), (11, .int .u64 (orI .u64 i j))]) rfl
  refine Zc (aC _ _ (Zf fun _ aF => ?_)); obtain ⟨k, aG, H⟩ := Za H; refine Zm (mv S rfl fun f S => mv S rfl fun f S => ov S rfl (Zj S rfl rfl (ZRd aG)) fun f S => mw S rfl fun f S => Zl (Zc (aF _ _ (Zf fun _ aH => ?_)))); obtain ⟨l, aI, H⟩ := Za H; refine Zm (mv S rfl fun f S => ov S rfl (Zj S rfl rfl (ZBb aI)) fun f S => mw S rfl fun f S => Zl (Zc (aH _ _ (sr (mv S rfl fun f S => ov S rfl (Zj S rfl rfl ZPf) fun f S => mw S rfl fun f S => oe (Zf fun _ aJ => ?_)))))); obtain ⟨bg, ac, H⟩ := Za H; refine Zm (mv S rfl fun f S => mv S rfl fun f S => ov S rfl (Zj S rfl rfl (ZTb ac)) fun f S => mw S rfl fun f S => Zl (Zc (aJ _ _ (sr (mv S rfl fun f S => mv S rfl fun f S => mv S rfl fun f S => ov S rfl (Zj S rfl rfl Z4b) fun f S => ov S rfl (Zj S rfl rfl ZId) fun f S => mw S rfl fun f S => ?_))))); refine oe (Zf fun _ aK => ?_); obtain ⟨aL, aM, aN⟩ := Za H; refine ZO (fun f w => ∃ (d : Int) (u : Zd), d = aL ∧ Zd.le ab u ∧ St 135 e c [(2, .int .u64 (a)), (8, .int .u64 (IntKind.u64.wrap h)), (9, .int .u64 (g)), (10, .int .u64 (ZNa .u64 a ((4294967295 : Int)))), (11, .int .u64 (orI .u64 i j)), (13, .int .u64 (l)), (14, .int .u64 (ZNa .u64 k ((4294967295 : Int)))), (15, .int .u64 (d))] [] u f w ∧ inR .u64 d) (fun _ ad => ?_) ?_
  · have H := aM; refine wp_block ?_; obtain ⟨bh, aO, ae⟩ := Za H; refine Zna aO (fun aP f w => ∃ (m : Int) (n : Int) (G : Zd), (m, n) = aP ∧ Zd.le ab G ∧ St 135 e c [(2, .int .u64 (a)), (8, .int .u64 (IntKind.u64.wrap h)), (9, .int .u64 (g)), (10, .int .u64 (ZNa .u64 a ((4294967295 : Int)))), (11, .int .u64 (orI .u64 i j)), (13, .int .u64 (l)), (14, .int .u64 (ZNa .u64 k ((4294967295 : Int)))), (15, .int .u64 (m)), (16, .int .u64 (n))] [] G f w ∧ inR .u64 m ∧ inR .u64 n) ⟨_, _, _, rfl, (leR _), (S.fr' rfl), (Z5e ac), (Zua _ _)⟩ ?_; rintro _ f w st ⟨m, n, G, hq, P, S, aQ, bi⟩ H bj aR af; subst hq; refine Zf fun _ aS => Zf fun _ aT => ?_; obtain ⟨aU, aV, aW⟩ := Za H; refine ZO (fun f w => ∃ (I : Bool) (Q : Zd), I = aU ∧ Zd.le G Q ∧ St 135 e c [(2, .int .u64 (a)), (8, .int .u64 (IntKind.u64.wrap h)), (9, .int .u64 (g)), (10, .int .u64 (ZNa .u64 a ((4294967295 : Int)))), (11, .int .u64 (orI .u64 i j)), (13, .int .u64 (l)), (14, .int .u64 (ZNa .u64 k ((4294967295 : Int)))), (15, .int .u64 (m)), (16, .int .u64 (n)), (78, .bool (I))] [] Q f w) (fun _ ag => ?_) ?_
    · have H := aV; rcases Zw (decide ((4294967296 : Int) ≤ m)) with v | v
      · have H := Zy H v; refine Zm (mv S rfl fun f S => ov S rfl (Zj S rfl rfl Zib) fun f S => ?_); have S := S.bool (t := 68) rfl v; refine mv S rfl fun f S => opn S rfl rfl rfl rfl fun f S => opn S rfl rfl rfl rfl fun f S => opn S rfl rfl rfl rfl fun f S => opn S rfl rfl rfl rfl fun f S => opn S rfl rfl rfl rfl fun f S => opn S rfl rfl rfl rfl fun f S => opn S rfl rfl rfl rfl fun f S => opn S rfl rfl rfl rfl fun f S => ov S rfl (ZP S (b := true) rfl rfl) fun f S => Zl ?_; obtain rfl := Zg H; refine Zc (ag _ _ ⟨_, _, rfl, (leR _), (S.fr' rfl)⟩)
      have H := Zx H v; refine Zm (mv S rfl fun f S => ov S rfl (Zj S rfl rfl Zib) fun f S => ?_); have S := S.bool (t := 68) rfl v; refine mv S rfl fun f S => opy S rfl rfl rfl rfl (Zn S rfl) fun f S => opy S rfl rfl rfl rfl (Zn S rfl) fun f S => opy S rfl rfl rfl rfl (Zj S rfl rfl Z4b) fun f S => opy S rfl rfl rfl rfl (Zn S rfl) fun f S => opy S rfl rfl rfl rfl (Zj S rfl rfl Z4b) fun f S => opy S rfl rfl rfl rfl (Zn S rfl) fun f S => opy S rfl rfl rfl rfl (Zj S rfl rfl ZHb) fun f S => opy S rfl rfl rfl rfl (Zj S rfl rfl ZDa) fun f S => ov S rfl (ZP S (b := false) rfl rfl) fun f S => Zl ?_; obtain rfl := Zg H; refine Zc (ag _ _ ⟨_, _, rfl, (leR _), (S.fr' rfl)⟩)
    rintro f w ⟨I, Q, hq, R, S⟩; subst hq; have H := aW; refine Zc (aT _ _ ?_); rcases Zw (I) with x | x
    · have H := Zy H x; refine ZD S rfl x (wp_skip (Zc (aS _ _ (wp_block (sr (mv S rfl fun f S => ov S rfl (Zj S rfl rfl ZId) fun f S => mw S rfl fun f S => oe (sr (mv S rfl fun f S => mv S rfl fun f S => ov S rfl (Zj S rfl rfl ZHb) fun f S => mw S rfl fun f S => ?_)))))))); refine oe (sr (mv S rfl fun f S => ov S rfl (Zj S rfl rfl Zib) fun f S => oe ?_)); rcases Zw (decide ((4294967296 : Int) ≤ IntKind.u64.wrap (n + g))) with A | A
      · have H := Zy H A; refine ZD S rfl A (wp_exit (Zph rfl ?_)); obtain rfl := Zg H; have hq := af _ rfl; subst hq; have H := ae; refine ZN (Zha ?_); obtain rfl := Zg H; refine Zc (ad _ _ ⟨_, _, rfl, (leT (leT (leR _) P) R), (S.fr' rfl), (Zua _ _)⟩)
      have H := Zx H A; refine ZC S rfl A (wp_skip (Zma ?_)); obtain rfl := Zg H; refine aR _ rfl _ _ ⟨_, _, _, rfl, (leT P R), (S.fr' rfl), (Zua _ _), (Zua _ _)⟩
    have H := Zx H x; refine ZC S rfl x (wp_exit (ZN ?_)); obtain rfl := Zg H; have hq := af _ rfl; subst hq; have H := ae; refine ZN (Zha ?_); obtain rfl := Zg H; refine Zc (ad _ _ ⟨_, _, rfl, (leT (leT (leR _) P) R), (S.fr' rfl), aQ⟩)
  rintro f w ⟨d, u, hq, bk, S, bm⟩; subst hq; have H := aN; refine Zc (aK _ _ (sr (mv S rfl fun f S => ov S rfl (Zj S rfl rfl Z4b) fun f S => mv S rfl fun f S => ov S rfl (Zj S rfl rfl ZHb) fun f S => mv S rfl fun f S => mv S rfl fun f S => ov S rfl (Zj S rfl rfl Z4b) fun f S => ov S rfl (Zj S rfl rfl ZId) fun f S => mw S rfl fun f S => oe (Zf fun _ aX => ?_)))); obtain ⟨bn, ah, H⟩ := Za H; refine Zm (mv S rfl fun f S => mv S rfl fun f S => ov S rfl (Zj S rfl rfl (ZTb ah)) fun f S => mw S rfl fun f S => Zl (Zc (aX _ _ (sr (mv S rfl fun f S => mv S rfl fun f S => mv S rfl fun f S => ov S rfl (Zj S rfl rfl Z4b) fun f S => ov S rfl (Zj S rfl rfl ZId) fun f S => mw S rfl fun f S => ?_))))); refine oe (Zf fun _ aY => ?_); obtain ⟨aZ, a0, a1⟩ := Za H; refine ZO (fun f w => ∃ (B : Int) (T : Zd), B = aZ ∧ Zd.le u T ∧ St 135 e c [(2, .int .u64 (a)), (8, .int .u64 (IntKind.u64.wrap h)), (14, .int .u64 (ZNa .u64 k ((4294967295 : Int)))), (15, .int .u64 (d)), (17, .int .u64 (IntKind.u64.wrap ((IntKind.u64.wrap ((IntKind.u64.wrap ((orI .u64 i j) * ((4294967296 : Int)))) + l)) - (IntKind.u64.wrap (d * a))))), (18, .int .u64 (B))] [] T f w ∧ inR .u64 B) (fun _ ai => ?_) ?_
  · have H := a0; refine wp_block ?_; obtain ⟨bo, a2, aj⟩ := Za H; refine Zna a2 (fun a3 f w => ∃ (o : Int) (p : Int) (J : Zd), (o, p) = a3 ∧ Zd.le u J ∧ St 135 e c [(2, .int .u64 (a)), (8, .int .u64 (IntKind.u64.wrap h)), (9, .int .u64 (g)), (10, .int .u64 (ZNa .u64 a ((4294967295 : Int)))), (14, .int .u64 (ZNa .u64 k ((4294967295 : Int)))), (15, .int .u64 (d)), (16, .int .u64 (o)), (17, .int .u64 (IntKind.u64.wrap ((IntKind.u64.wrap ((IntKind.u64.wrap ((orI .u64 i j) * ((4294967296 : Int)))) + l)) - (IntKind.u64.wrap (d * a))))), (18, .int .u64 (p))] [] J f w ∧ inR .u64 o ∧ inR .u64 p) ⟨_, _, _, rfl, (leR _), (S.fr' rfl), (Zua _ _), (Z5e ah)⟩ ?_; rintro _ f w st ⟨o, p, J, hq, U, S, bp, a4⟩ H bq a5 ak; subst hq; refine Zf fun _ a6 => Zf fun _ a7 => ?_; obtain ⟨a8, a9, ba⟩ := Za H; refine ZO (fun f w => ∃ (L : Bool) (V : Zd), L = a8 ∧ Zd.le J V ∧ St 135 e c [(2, .int .u64 (a)), (8, .int .u64 (IntKind.u64.wrap h)), (9, .int .u64 (g)), (10, .int .u64 (ZNa .u64 a ((4294967295 : Int)))), (14, .int .u64 (ZNa .u64 k ((4294967295 : Int)))), (15, .int .u64 (d)), (16, .int .u64 (o)), (17, .int .u64 (IntKind.u64.wrap ((IntKind.u64.wrap ((IntKind.u64.wrap ((orI .u64 i j) * ((4294967296 : Int)))) + l)) - (IntKind.u64.wrap (d * a))))), (18, .int .u64 (p)), (113, .bool (L))] [] V f w) (fun _ al => ?_) ?_
    · have H := a9; rcases Zw (decide ((4294967296 : Int) ≤ p)) with C | C
      · have H := Zy H C; refine Zm (mv S rfl fun f S => ov S rfl (Zj S rfl rfl Zib) fun f S => ?_); have S := S.bool (t := 103) rfl C; refine mv S rfl fun f S => opn S rfl rfl rfl rfl fun f S => opn S rfl rfl rfl rfl fun f S => opn S rfl rfl rfl rfl fun f S => opn S rfl rfl rfl rfl fun f S => opn S rfl rfl rfl rfl fun f S => opn S rfl rfl rfl rfl fun f S => opn S rfl rfl rfl rfl fun f S => opn S rfl rfl rfl rfl fun f S => ov S rfl (ZP S (b := true) rfl rfl) fun f S => Zl ?_; obtain rfl := Zg H; refine Zc (al _ _ ⟨_, _, rfl, (leR _), (S.fr' rfl)⟩)
      have H := Zx H C; refine Zm (mv S rfl fun f S => ov S rfl (Zj S rfl rfl Zib) fun f S => ?_); have S := S.bool (t := 103) rfl C; refine mv S rfl fun f S => opy S rfl rfl rfl rfl (Zn S rfl) fun f S => opy S rfl rfl rfl rfl (Zn S rfl) fun f S => opy S rfl rfl rfl rfl (Zj S rfl rfl Z4b) fun f S => opy S rfl rfl rfl rfl (Zn S rfl) fun f S => opy S rfl rfl rfl rfl (Zj S rfl rfl Z4b) fun f S => opy S rfl rfl rfl rfl (Zn S rfl) fun f S => opy S rfl rfl rfl rfl (Zj S rfl rfl ZHb) fun f S => opy S rfl rfl rfl rfl (Zj S rfl rfl ZDa) fun f S => ov S rfl (ZP S (b := false) rfl rfl) fun f S => Zl ?_; obtain rfl := Zg H; refine Zc (al _ _ ⟨_, _, rfl, (leR _), (S.fr' rfl)⟩)
    rintro f w ⟨L, V, hq, W, S⟩; subst hq; have H := ba; refine Zc (a7 _ _ ?_); rcases Zw (L) with D | D
    · have H := Zy H D; refine ZD S rfl D (wp_skip (Zc (a6 _ _ (wp_block (sr (mv S rfl fun f S => ov S rfl (Zj S rfl rfl ZId) fun f S => mw S rfl fun f S => oe (sr (mv S rfl fun f S => mv S rfl fun f S => ov S rfl (Zj S rfl rfl ZHb) fun f S => mw S rfl fun f S => ?_)))))))); refine oe (sr (mv S rfl fun f S => ov S rfl (Zj S rfl rfl Zib) fun f S => oe ?_)); rcases Zw (decide ((4294967296 : Int) ≤ IntKind.u64.wrap (o + g))) with E | E
      · have H := Zy H E; refine ZD S rfl E (wp_exit (Zph rfl ?_)); obtain rfl := Zg H; have hq := ak _ rfl; subst hq; have H := aj; refine ZN (Zha ?_); obtain rfl := Zg H; refine Zc (ai _ _ ⟨_, _, rfl, (leT (leT (leR _) U) W), (S.fr' rfl), (Zua _ _)⟩)
      have H := Zx H E; refine ZC S rfl E (wp_skip (Zma ?_)); obtain rfl := Zg H; refine a5 _ rfl _ _ ⟨_, _, _, rfl, (leT U W), (S.fr' rfl), (Zua _ _), (Zua _ _)⟩
    have H := Zx H D; refine ZC S rfl D (wp_exit (ZN ?_)); obtain rfl := Zg H; have hq := ak _ rfl; subst hq; have H := aj; refine ZN (Zha ?_); obtain rfl := Zg H; refine Zc (ai _ _ ⟨_, _, rfl, (leT (leT (leR _) U) W), (S.fr' rfl), a4⟩)
  rintro f w ⟨B, T, hq, br, S, bs⟩; subst hq; have H := a1; refine Zc (aY _ _ (Zf fun _ bb => ?_)); obtain ⟨bc, am, H⟩ := Za H; refine Zm (mv S rfl fun f S => ov S rfl (Zj S rfl rfl Z4b) fun f S => mv S rfl fun f S => ov S rfl (Zj S rfl rfl ZHb) fun f S => mv S rfl fun f S => ov S rfl (Zj S rfl rfl Z4b) fun f S => mv S rfl fun f S => ov S rfl (Zj S rfl rfl ZHb) fun f S => mv S rfl fun f S => mv S rfl fun f S => ov S rfl (Zj S rfl rfl Z4b) fun f S => ov S rfl (Zj S rfl rfl ZId) fun f S => mv S rfl fun f S => ?_); refine ov S rfl (Zj S rfl rfl (ZBb am)) fun f S => mw S rfl fun f S => mw S rfl fun f S => Zl (Zc (bb _ _ (wp_ret ?_))); obtain rfl := Zg H; refine Zz S (Zxa rfl (ZF S rfl) (ZF S rfl)) ⟨[.int .u64 (IntKind.u64.wrap ((IntKind.u64.wrap (d * ((4294967296 : Int)))) + B))], [.int .u64 (bc)], rfl, (Zr (Zua _ _)), (Zr (Zpd (Zua _ _) am))⟩
theorem ZNl {b : World} {a : Zd} (hv : VIn a b) {c : List Value} {hi : Int} (h : Rep.rel (Zb .u64) a c hi) {d : List Value} {lo : Int} (i : Rep.rel (Zb .u64) a d lo) {e : List Value} {y : Int} (j : Rep.rel (Zb .u64) a e y) {z : Int × Int} (hm : ZHd hi lo y = some z) :
    Ret Tryz.prog 190 #[(Zb .u64).val c, (Zb .u64).val d, (Zb .u64).val e] b a (fun y v' => ∃ f g, y = Value.tuple #[(Zb .u64).val f, (Zb .u64).val g] ∧ (Zb .u64).rel v' f z.1 ∧ (Zb .u64).rel v' g z.2) :=
  div64_w hv h i j (Z1n hm)
theorem ZXm {E : World} {d : Zd} (hv : VIn d E) {R : List Value} {a : Nat} (g : Rep.rel ZB d R a) {T : List Value} {n : Int} (p1 : Rep.rel (Zb .u64) d T n) {z : Nat × Int} (H : ZDg a n = some z) : Ret Tryz.prog 167 #[ZB.val R, (Zb .u64).val T] E d (fun y v' => ∃ U V, y = .tuple #[ZB.val U, (Zb .u64).val V] ∧ ZB.rel v' U z.1 ∧ (Zb .u64).rel v' V z.2) := by
  obtain ⟨W, X, Y, rfl⟩ := Z5 g; obtain ⟨rfl, r4⟩ := p1; refine ZV (K := 35) (args := [.slice W X Y, .int .u64 (n)]) hv Tryz.func167 rfl rfl zl fun f S => ?_; unfold ZDg at H; refine sr (mw S rfl fun f S => mw S rfl fun f S => oe (Zf fun _ ah => ?_)); obtain ⟨y9, F, H⟩ := Za H; refine Zm (mv S rfl fun f S => ov S rfl (ZG S (Zs g) rfl rfl ZU) fun f S => ?_); obtain ⟨Z, aa⟩ : ∃ c : List Value, c = (List.replicate ((((Zi 18446744073709551616 a)).length : Int)).toNat [.int .u64 ((0 : Int))]).flatten := ⟨_, rfl⟩; obtain ⟨ai, w, aj, S⟩ := Z6b Zzc S (l := (((Zi 18446744073709551616 a)).length : Int)) (c := (((Zi 18446744073709551616 a)).length : Int)) (Zda F).1 (Zda F).2.1 (Zda F).2.2.1 (Zda F).2.2.2 aa; have ak : Rep.rels (Zb .u64) d Z (List.replicate ((((Zi 18446744073709551616 a)).length : Int)).toNat ((0 : Int))) := by rw [aa]; exact ZVb (show Rep.rel (Zb .u64) _ [.int .u64 ((0 : Int))] _ from (Zr (by decide))) _
  refine Zpa wn rfl zl (aj rfl rfl) S fun f S => mw S rfl fun f S => Zl (Zc (ah _ _ (sr (mw S rfl fun f S => oe (Zf fun _ al => Zf fun _ am => ?_))))); obtain ⟨aV, ab, H⟩ := Za H; refine Zm (mv S rfl fun f S => ov S rfl (ZG S (Zs g) rfl rfl ZU) fun f S => ov S rfl (Zj S rfl rfl (Zra ab)) fun f S => mw S rfl fun f S => Zl (Zc (am _ _ ?_))); obtain ⟨an, ao, ap⟩ := Za H; refine ZO (fun f w => ∃ (o : (List Int)) (s : Int) (t : Option Nat) (p : Nat) (u : Nat) (L : List Value) (G : Zd), (o, s) = an ∧ Zd.le d G ∧ St 35 E d [(6, .slice (mkA t) (p) u), (7, .int .u64 (s))] [Loc.own t 211 1 (p) u L] G f w ∧ Rep.rels (Zb .u64) G L o ∧ p = o.length ∧ inR .u64 s) (fun _ aq => ?_) ?_
  · have H := ao; refine wp_block ?_; obtain ⟨aW, ar, au⟩ := Za H; refine Zna ar (fun av f w => ∃ (q : (List Int)) (h : Int) (b : Int) (I : Option Nat) (k : Nat) (v : Nat) (e : List Value) (J : Zd), (q, h, b) = av ∧ Zd.le d J ∧ St 35 E d [(0, .slice W X Y), (1, .int .u64 (n)), (6, .slice (mkA I) (k) v), (7, .int .u64 (h)), (8, .int .i64 (b))] [Loc.own I 211 1 (k) v e] J f w ∧ Rep.rels (Zb .u64) J e q ∧ k = q.length ∧ inR .u64 h ∧ inR .i64 b) ⟨_, _, _, some ai, ((((Zi 18446744073709551616 a)).length : Int)).toNat, ((((Zi 18446744073709551616 a)).length : Int)).toNat, Z, _, rfl, (leR _), (S.fr' rfl), ak, (Zyb (x := (0 : Int))), (by decide), (Z2 ab).2⟩ ?_; rintro _ f w st ⟨q, h, b, I, k, v, e, J, hq, M, S, B, C, ac, aX⟩ H aY aw ax; subst hq; refine Zf fun _ ay => sr (mv S rfl fun f S => ov S rfl (Zj S rfl rfl Zib) fun f S => oe ?_); rcases Zw (decide ((0 : Int) ≤ b)) with D | D
    · have H := Zy H D; refine ZD S rfl D (wp_skip (Zc (ay _ _ (Zf fun _ az => wp_block ?_)))); obtain ⟨N, O, H⟩ := Za H; obtain ⟨m, aA, H⟩ := Za H; obtain ⟨aZ, r, H⟩ := Za H; refine Zm (mv S rfl fun f S => mv S rfl fun f S => mv S rfl fun f S => mv S rfl fun f S => mv S rfl fun f S => ?_); have g := Zp M g; obtain ⟨_, a0, a1, a2, rfl, P, aB⟩ := Zga g (Zh O).2.1; obtain ⟨rfl, aC⟩ := aB; refine ov S rfl (ZJ S rfl rfl ZU (Zh O).1 (ltI (Zs g) (Zh O).2.2.1)) fun f S => ov S rfl (ZY S rfl Zva (S.view P)) fun f S => mv S rfl fun f S => opc S rfl (Zo S [.int .u64 (h), .int .u64 (N), .int .u64 (n)] Zuk rfl rfl) (ZNl S.vin (show Rep.rel (Zb .u64) _ [.int .u64 (h)] h from (Zr ac)) (show Rep.rel (Zb .u64) _ [.int .u64 (N)] N from (Zr aC)) (show Rep.rel (Zb .u64) _ [.int .u64 (n)] n from (Zr r4)) aA) ?_; rintro _ ad f w Q ⟨a3, a4, rfl, aD, aE⟩ S; have B := ZS Q B; have P := Atm Q P; obtain ⟨rfl, aF⟩ := aD; obtain ⟨rfl, aG⟩ := aE; refine mv S rfl fun f S => ov S rfl (ZR S rfl rfl) fun f S => ov S rfl (ZR S rfl rfl) fun f S => ?_; obtain ⟨aH, rfl⟩ := ZRb S (j := 0) rfl (ZYb C (Zh r).2.2.2); have ae := ZFa B (Zh r).2.1; obtain ⟨a5, aI⟩ : ∃ c, (List.take (Zb .u64).n (List.drop ((b).toNat * (Zb .u64).n) e)) = c := ⟨_, rfl⟩
      rw [aI] at ae; obtain ⟨rfl, a6⟩ := ae; refine ov S rfl (ZJ S rfl rfl ZU (Zh r).1 (ltI C (Zh r).2.2.1)) fun f S => ?_; obtain ⟨w, aJ, S⟩ := ZMb S Zva (off := 0 + (b).toNat * 1) (z := .int .u64 (m.1)) (cs := [.int .u64 (m.1)]) (ZEb rfl) rfl (i := 0) rfl (ZUb S (j := 0) rfl (ltN C (Zh r).2.2.2)) (by first | rfl | simp [ZSa]); have aK : Rep.rels (Zb .u64) ad (List.take (0 + (b).toNat * 1) e ++ [Value.int IntKind.u64 (m.1)] ++ List.drop (0 + (b).toNat * 1 + 1) e) (q.set (b).toNat m.1) := ZJb B (Zh r).2.2.2 (show Rep.rel (Zb .u64) ad [.int .u64 (m.1)] _ from (Zr aF)) rfl rfl; have aL : k = (q.set (b).toNat m.1).length := ZKb C; refine Z0 wn rfl (aJ rfl rfl) (mw S rfl fun f S => Zl (Zma (Zc (az _ _ ?_)))); obtain ⟨a7, af, H⟩ := Za H; refine Zm (mv S rfl fun f S => ov S rfl (Zj S rfl rfl (Zra af)) fun f S => mw S rfl fun f S => Zl ?_); obtain rfl := Zg H; refine aw _ rfl _ _ ⟨_, _, _, some aH, k, v, (List.take (0 + (b).toNat * 1) e ++ [Value.int IntKind.u64 (m.1)] ++ List.drop (0 + (b).toNat * 1 + 1) e), _, rfl, (leT M Q), (S.fr' rfl), aK, aL, aG, (Z2 af).2⟩
    have H := Zx H D; refine ZC S rfl D (wp_exit (ZN ?_)); obtain rfl := Zg H; have hq := ax _ rfl; subst hq; have H := au; refine ZN (Zha ?_); obtain rfl := Zg H; refine Zc (aq _ _ ⟨_, _, I, k, v, e, _, rfl, (leT (leR _) M), (S.fr' rfl), B, C, ac⟩)
  rintro f w ⟨o, s, t, p, u, L, G, hq, a8, S, aM, aN, aO⟩; subst hq; have H := ap; refine Zc (al _ _ (Zf fun _ aP => ?_)); obtain ⟨a9, aQ, H⟩ := Za H; refine Zm (mv S rfl fun f S => ?_); obtain ⟨ba, bb, S, aR⟩ := S.pubSlice (i := 0) (A := (Zb .u64)) (l := o) (ℓ' := []) rfl rfl aN aM rfl; refine opc S rfl (Zo S [.slice (mkA t) (p) u] ZBd rfl rfl) (Zrd S.vin (show Rep.rel (Zu (Zb .u64)) _ [.slice (mkA t) (p) u] o from aR) aQ) ?_; rintro _ bc f w bd ⟨be, rfl, ag⟩ S; obtain ⟨aS, aT, aU, rfl⟩ := Z5 ag; refine mv S rfl fun f S => mw S rfl fun f S => mw S rfl fun f S => Zl (Zc (aP _ _ (wp_ret ?_))); obtain rfl := Zg H; refine Zz S (Zxa rfl (ZF S rfl) (ZF S rfl)) ⟨[.slice aS aT aU], [.int .u64 (s)], rfl, ag, (Zr aO)⟩
theorem Z9k {c : World} {b : Zd} (hv : VIn b c) {d : List Value} {a : Nat} (i : Rep.rel ZB b d a) {e : List Value} {n : Int} (f : Rep.rel (Zb .u64) b e n) {z : Nat × Int} (hm : Z8d a n = some z) :
    Ret Tryz.prog 167 #[ZB.val d, (Zb .u64).val e] c b (fun y v' => ∃ g h, y = Value.tuple #[ZB.val g, (Zb .u64).val h] ∧ ZB.rel v' g z.1 ∧ (Zb .u64).rel v' h z.2) :=
  ZXm hv i f (Zsm f.2 hm)
theorem cmp_w {m : World} {e : Zd} (hv : VIn e m) {A : List Value} {a : (List Int)} (c : Rep.rel (Zu (Zb .u64)) e A a) {B : List Value} {b : (List Int)} (d : Rep.rel (Zu (Zb .u64)) e B b) {z : Int} (H : ZYh a b = some z) : Ret Tryz.prog 87 #[(Zu (Zb .u64)).val A, (Zu (Zb .u64)).val B] m e (fun y v' => ∃ C, y = (Zb .i64).val C ∧ (Zb .i64).rel v' C z) := by
  obtain ⟨D, E, G, rfl⟩ := Zwa c; obtain ⟨I, J, L, rfl⟩ := Zwa d; refine ZV (K := 41) (args := [.slice D (E) G, .slice I (J) L]) hv Tryz.func87 rfl rfl zl fun f S => ?_; unfold ZYh at H; refine sr (mw S rfl fun f S => oe (Zf fun _ P => sr (mv S rfl fun f S => ov S rfl (ZG S (Zs c) rfl rfl ZU) fun f S => mv S rfl fun f S => ov S rfl (ZG S (Zs d) rfl rfl ZU) fun f S => ov S rfl (Zj S rfl rfl Zic) fun f S => oe ?_))); rcases Zw (((a.length : Int)) != ((b.length : Int))) with g | g
  · have H := Zy H g; refine ZD S rfl g (Zf fun _ Q => sr (mv S rfl fun f S => ov S rfl (ZG S (Zs c) rfl rfl ZU) fun f S => mv S rfl fun f S => ov S rfl (ZG S (Zs d) rfl rfl ZU) fun f S => ov S rfl (Zj S rfl rfl Zba) fun f S => oe ?_)); rcases Zw (decide ((a.length : Int) < (b.length : Int))) with h | h
    · have H := Zy H h; refine ZD S rfl h (sr (mw S rfl fun f S => oe (wp_ret (ZM (ZM ?_))))); obtain rfl := Zg H; refine Zz S (ZL rfl (ZF S rfl)) ⟨[.int .i64 ((-1 : Int))], rfl, (Zr (by decide))⟩
    have H := Zx H h; refine ZC S rfl h (wp_skip (Zc (Q _ _ (sr (mw S rfl fun f S => oe (wp_ret (ZM ?_))))))); obtain rfl := Zg H; refine Zz S (ZL rfl (ZF S rfl)) ⟨[.int .i64 ((1 : Int))], rfl, (Zr (by decide))⟩
  have H := Zx H g; refine ZC S rfl g (wp_skip (Zc (P _ _ (Zf fun _ R => Zf fun _ T => ?_)))); obtain ⟨ar, M, H⟩ := Za H; refine Zm (mv S rfl fun f S => ov S rfl (ZG S (Zs c) rfl rfl ZU) fun f S => ov S rfl (Zj S rfl rfl (Zra M)) fun f S => mw S rfl fun f S => Zl (Zc (T _ _ ?_))); obtain ⟨U, V, o⟩ := Za H; refine ZO (fun f w => ∃  (p : Zd), (.inl (())) = U ∧ Zd.le e p ∧ St 41 m e [] [] p f w) (fun _ W => ?_) ?_
  · have H := V; refine wp_block ?_; obtain ⟨au, X, q⟩ := Za H; refine Zna X (fun Y f w => ∃ (i : Int) (r : Zd), i = Y ∧ Zd.le e r ∧ St 41 m e [(0, .slice D (E) G), (1, .slice I (J) L), (5, .int .i64 (i))] [] r f w ∧ inR .i64 i) ⟨_, _, rfl, (leR _), (S.fr' rfl), (Z2 M).2⟩ ?_; rintro _ f w st ⟨i, r, hq, n, S, av⟩ H aw Z s; subst hq; refine Zf fun _ aa => sr (mv S rfl fun f S => ov S rfl (Zj S rfl rfl Zib) fun f S => oe ?_); rcases Zw (decide ((0 : Int) ≤ i)) with j | j
    · have H := Zy H j; refine ZD S rfl j (wp_skip (Zc (aa _ _ (Zf fun _ ab => wp_block (Zf fun _ ac => Zf fun _ ad => ?_))))); obtain ⟨ae, t, H⟩ := Za H; obtain ⟨af, u, H⟩ := Za H; refine Zla (fl := #[true, true, true, true, true, true, true, true, true]) Zka (by kernel_rfl) S ?_; intro ops O F w S; refine rfa O F 0 rfl rfl S (Zn S rfl) fun f S => rfa O F 1 rfl rfl S (Zn S rfl) fun f S => ?_; have c := Zp n c; obtain ⟨_, ax, ay, az, rfl, ag, ah⟩ := Zga c (Zh t).2.1; obtain ⟨rfl, aA⟩ := ah; refine rfa O F 2 rfl rfl S (ZJ S rfl rfl ZU (Zh t).1 (ltI (Zs c) (Zh t).2.2.1)) fun f S => rfa O F 3 rfl rfl S (ZY S rfl Zva (S.view ag)) fun f S => rfa O F 4 rfl rfl S (Zn S rfl) fun f S => rfa O F 5 rfl rfl S (Zn S rfl) fun f S => ?_; have d := Zp n d; obtain ⟨_, aB, aC, aD, rfl, ai, aj⟩ := Zga d (Zh u).2.1; obtain ⟨rfl, aE⟩ := aj; refine rfa O F 6 rfl rfl S (ZJ S rfl rfl ZU (Zh u).1 (ltI (Zs d) (Zh u).2.2.1)) fun f S => rfa O F 7 rfl rfl S (ZY S rfl Zva (S.view ai)) fun f S => rfa O F 8 rfl rfl S (Zj S rfl rfl Zba) fun f S => Z6 O F (Zc (ad _ _ ?_)); rcases Zw (decide (ae < af)) with k | k
      · have H := Zy H k; refine ZD S rfl k (sr (mw S rfl fun f S => oe (wp_ret (ZM (ZVa (ZM ?_)))))); obtain rfl := Zg H; have hq := s _ rfl; subst hq; have H := q; refine ZM (ZVa ?_); obtain rfl := Zg H; have H := o; refine ZM (ZM ?_); obtain rfl := Zg H; refine Zz S (ZL rfl (ZF S rfl)) ⟨[.int .i64 ((-1 : Int))], rfl, (Zr (by decide))⟩
      have H := Zx H k; refine ZC S rfl k (wp_skip (Zc (ac _ _ (Zf fun _ ak => ?_)))); obtain ⟨al, v, H⟩ := Za H; obtain ⟨am, x, H⟩ := Za H; refine Zla (fl := #[true, true, true, true, true, true, true, true, true]) Zka (by kernel_rfl) S ?_; intro ops O F w S; refine rfa O F 0 rfl rfl S (Zn S rfl) fun f S => rfa O F 1 rfl rfl S (Zn S rfl) fun f S => ?_; obtain ⟨aF, an, ao⟩ := ZGa c (Zh v).2.1; obtain ⟨rfl, aG⟩ := ao; refine rfa O F 2 rfl rfl S (ZJ S rfl rfl ZU (Zh v).1 (ltI (Zs c) (Zh v).2.2.1)) fun f S => rfa O F 3 rfl rfl S (ZY S rfl Zva (S.view an)) fun f S => rfa O F 4 rfl rfl S (Zn S rfl) fun f S => rfa O F 5 rfl rfl S (Zn S rfl) fun f S => ?_; obtain ⟨aH, ap, aq⟩ := ZGa d (Zh x).2.1; obtain ⟨rfl, aI⟩ := aq; refine rfa O F 6 rfl rfl S (ZJ S rfl rfl ZU (Zh x).1 (ltI (Zs d) (Zh x).2.2.1)) fun f S => rfa O F 7 rfl rfl S (ZY S rfl Zva (S.view ap)) fun f S => rfa O F 8 rfl rfl S (Zj S rfl rfl ZDa) fun f S => Z6 O F (Zc (ak _ _ ?_)); rcases Zw (decide (am < al)) with l | l
      · have H := Zy H l; refine ZD S rfl l (sr (mw S rfl fun f S => oe (wp_ret (ZVa (ZM ?_))))); obtain rfl := Zg H; have hq := s _ rfl; subst hq; have H := q; refine ZM (ZVa ?_); obtain rfl := Zg H; have H := o; refine ZM (ZM ?_); obtain rfl := Zg H; refine Zz S (ZL rfl (ZF S rfl)) ⟨[.int .i64 ((1 : Int))], rfl, (Zr (by decide))⟩
      have H := Zx H l; refine ZC S rfl l (wp_skip (Zma (Zc (ab _ _ ?_)))); obtain ⟨aJ, N, H⟩ := Za H; refine Zm (mv S rfl fun f S => ov S rfl (Zj S rfl rfl (Zra N)) fun f S => mw S rfl fun f S => Zl ?_); obtain rfl := Zg H; refine Z _ rfl _ _ ⟨_, _, rfl, n, (S.fr' rfl), (Z2 N).2⟩
    have H := Zx H j; refine ZC S rfl j (wp_exit (ZN ?_)); obtain rfl := Zg H; have hq := s _ rfl; subst hq; have H := q; refine ZN (Zha ?_); obtain rfl := Zg H; refine Zc (W _ _ ⟨_, rfl, (leT (leR _) n), (S.fr' rfl)⟩)
  rintro f w ⟨p, hq, aK, S⟩; subst hq; have H := o; refine Zc (R _ _ (sr (mw S rfl fun f S => oe (wp_ret ?_)))); obtain rfl := Zg H; refine Zz S (ZL rfl (ZF S rfl)) ⟨[.int .i64 ((0 : Int))], rfl, (Zr (by decide))⟩
theorem cmp_c {d : World} {c : Zd} (hv : VIn c d) {e : List Value} {a : Nat} (f : Rep.rel ZB c e a) {g : List Value} {b : Nat} (h : Rep.rel ZB c g b) {z : Int} (hm : cmpF a b = some z) :
    Ret Tryz.prog 87 #[ZB.val e, ZB.val g] d c (fun y v' => ∃ i, y = (Zb .i64).val i ∧ (Zb .i64).rel v' i z) :=
  cmp_w hv f h ((cmp_eq (Zjk f) (Zjk h)).trans hm)
theorem mul64_w {e : World} {a : Zd} (hv : VIn a e) {g : List Value} {x : Int} (l : Rep.rel (Zb .u64) a g x) {h : List Value} {y : Int} (m : Rep.rel (Zb .u64) a h y) {z : Int × Int} (H : Zbg x y = some z) : Ret Tryz.prog 147 #[(Zb .u64).val g, (Zb .u64).val h] e a (fun y v' => ∃ i c, y = .tuple #[(Zb .u64).val i, (Zb .u64).val c] ∧ (Zb .u64).rel v' i z.1 ∧ (Zb .u64).rel v' c z.2) := by
  obtain ⟨rfl, c⟩ := l; obtain ⟨rfl, B⟩ := m; refine ZV (K := 51) (args := [.int .u64 (x), .int .u64 (y)]) hv Tryz.func147 rfl rfl zl fun f S => ?_; unfold Zbg at H; refine sr (mw S rfl fun f S => mw S rfl fun f S => oe (sr (mv S rfl fun f S => ov S rfl (Zj S rfl rfl ZPf) fun f S => mw S rfl fun f S => oe (Zf fun _ n => ?_)))); obtain ⟨b, o, H⟩ := Za H; refine Zm (mv S rfl fun f S => ov S rfl (Zj S rfl rfl (ZBb o)) fun f S => mw S rfl fun f S => Zl (Zc (n _ _ (sr (mv S rfl fun f S => ov S rfl (Zj S rfl rfl ZPf) fun f S => mw S rfl fun f S => oe (Zf fun _ p => ?_)))))); obtain ⟨d, q, H⟩ := Za H; refine Zm (mv S rfl fun f S => ov S rfl (Zj S rfl rfl (ZBb q)) fun f S => mw S rfl fun f S => Zl (Zc (p _ _ (sr (mv S rfl fun f S => mv S rfl fun f S => ov S rfl (Zj S rfl rfl Z4b) fun f S => mw S rfl fun f S => oe (Zf fun _ r => ?_)))))); obtain ⟨s, t, H⟩ := Za H; refine Zm (mv S rfl fun f S => mv S rfl fun f S => ov S rfl (Zj S rfl rfl Z4b) fun f S => mv S rfl fun f S => ov S rfl (Zj S rfl rfl (ZBb t)) fun f S => ov S rfl (Zj S rfl rfl ZHb) fun f S => mw S rfl fun f S => Zl ?_); have S := S.fr' (σ' := [(0, .int .u64 (x)), (1, .int .u64 (y)), (6, .int .u64 (ZNa .u64 x ((4294967295 : Int)))), (7, .int .u64 (b)), (9, .int .u64 (d)), (11, .int .u64 (IntKind.u64.wrap ((IntKind.u64.wrap (b * (ZNa .u64 y ((4294967295 : Int))))) + s)))]) rfl
  refine Zc (r _ _ (sr (mv S rfl fun f S => ov S rfl (Zj S rfl rfl ZPf) fun f S => mw S rfl fun f S => oe (Zf fun _ u => ?_)))); obtain ⟨j, v, H⟩ := Za H; refine Zm (mv S rfl fun f S => ov S rfl (Zj S rfl rfl (ZBb v)) fun f S => mw S rfl fun f S => Zl (Zc (u _ _ (sr (mv S rfl fun f S => mv S rfl fun f S => mv S rfl fun f S => ov S rfl (Zj S rfl rfl Z4b) fun f S => ov S rfl (Zj S rfl rfl ZHb) fun f S => mw S rfl fun f S => oe ?_))))); refine Zf fun _ w => ?_; obtain ⟨k, A, H⟩ := Za H; refine Zm (mv S rfl fun f S => mv S rfl fun f S => ov S rfl (Zj S rfl rfl Z4b) fun f S => mv S rfl fun f S => ov S rfl (Zj S rfl rfl ZHb) fun f S => mv S rfl fun f S => ov S rfl (Zj S rfl rfl (ZBb A)) fun f S => ov S rfl (Zj S rfl rfl ZHb) fun f S => mw S rfl fun f S => Zl (Zc (w _ _ (sr (mv S rfl fun f S => ?_))))); refine mv S rfl fun f S => ov S rfl (Zj S rfl rfl Z4b) fun f S => mw S rfl fun f S => ?_; have S := S.fr' (σ' := [(4, .int .u64 (IntKind.u64.wrap ((IntKind.u64.wrap ((IntKind.u64.wrap (b * d)) + j)) + k))), (5, .int .u64 (IntKind.u64.wrap (x * y)))]) rfl; refine oe (wp_ret ?_); obtain rfl := Zg H; refine Zz S (Zxa rfl (ZF S rfl) (ZF S rfl)) ⟨[.int .u64 (IntKind.u64.wrap ((IntKind.u64.wrap ((IntKind.u64.wrap (b * d)) + j)) + k))], [.int .u64 (IntKind.u64.wrap (x * y))], rfl, (Zr (Zua _ _)), (Zr (Zua _ _))⟩
theorem Zxj {b : World} {a : Zd} (hv : VIn a b) {c : List Value} {x : Int} (g : Rep.rel (Zb .u64) a c x) {d : List Value} {y : Int} (h : Rep.rel (Zb .u64) a d y) {z : Int × Int} (hm : Zzd x y = some z) :
    Ret Tryz.prog 147 #[(Zb .u64).val c, (Zb .u64).val d] b a (fun y v' => ∃ e f, y = Value.tuple #[(Zb .u64).val e, (Zb .u64).val f] ∧ (Zb .u64).rel v' e z.1 ∧ (Zb .u64).rel v' f z.2) :=
  mul64_w hv g h (Z3m hm)
theorem take_w {R : World} {o : Zd} (hv : VIn o R) {a off0 g C : Nat} {E : TypeId} {pre0 cs0 post0 : List Value} {u : (List Int)} (bf : R.heap[a]? = some (.cells (pre0 ++ cs0 ++ post0).toArray E (0, 0))) (aG : off0 = pre0.length) (bg : o a = none) (au : g = u.length) (bh : g ≤ C ∧ C ≤ maxLen) (r : Rep.rels (Zb .u64) o cs0 u) {c1 : List Value} {v : Nat} (D : Rep.rel ZB o c1 v) {c2 : List Value} {q : Int} (p2 : Rep.rel (Zb .u64) o c2 q) {z : Bool × (List Int)} (H : ZFg u v q = some z) : RetL Tryz.prog 197 #[.slice (some ⟨a, off0, none⟩) g C, ZB.val c1, (Zb .u64).val c2] R o [a] (fun y v' w' => (∃ r0, y = ZQ.val r0 ∧ ZQ.rel v' r0 z.1) ∧ v' a = none ∧ ∃ cs, w'.heap[a]? = some (.cells (pre0 ++ cs ++ post0).toArray E (0, 0)) ∧ g = z.2.length ∧ Rep.rels (Zb .u64) v' cs z.2) := by
  obtain ⟨q1, V, W, rfl⟩ := Z5 D; obtain ⟨rfl, r4⟩ := p2; refine Zek (K := 79) (args := [.slice (some ⟨a, off0, none⟩) (g) C, .slice q1 V W, .int .u64 (q)]) hv bf bg Tryz.func197 rfl rfl zl fun f S => ?_; unfold ZFg at H; refine sr (mw S rfl fun f S => oe (Zf fun _ bi => ?_)); obtain ⟨J, bj, H⟩ := Za H; obtain ⟨cA, av, H⟩ := Za H; refine Zm (mv S rfl fun f S => ov S rfl (ZG S (Zs D) rfl rfl ZU) fun f S => ov S rfl (Zj S rfl rfl (Z9 bj)) fun f S => ?_); obtain ⟨aH, aQ⟩ : ∃ c : List Value, c = (List.replicate (J).toNat [.int .u64 ((0 : Int))]).flatten := ⟨_, rfl⟩; obtain ⟨aR, w, bk, S⟩ := Z6b Zzc S (l := J) (c := J) (Zda av).1 (Zda av).2.1 (Zda av).2.2.1 (Zda av).2.2.2 aQ; have bm : Rep.rels (Zb .u64) o aH (List.replicate (J).toNat ((0 : Int))) := by rw [aQ]; exact ZVb (show Rep.rel (Zb .u64) _ [.int .u64 ((0 : Int))] _ from (Zr (by decide))) _
  refine Zpa wn rfl zl (bk rfl rfl) S fun f S => mw S rfl fun f S => Zl (Zc (bi _ _ (sr (mw S rfl fun f S => oe (Zf fun _ bn => sr (mv S rfl fun f S => ov S rfl (ZG S (Zs D) rfl rfl ZU) fun f S => mv S rfl fun f S => oe ?_)))))); obtain ⟨bo, bp, bq⟩ := Za H; refine ZO (fun f w => ∃ (L : (List Int)) (b : Int) (aI : Option Nat) (s : Nat) (G : Nat) (h : List Value) (X : Zd), (L, b) = bo ∧ Zd.le o X ∧ St 79 ⟨R, [a]⟩ o [(0, .slice (some ⟨a, off0, none⟩) (g) C), (1, .slice q1 V W), (7, .slice (mkA aI) (s) G), (8, .int .u64 (b))] [Loc.box a E (pre0 ++ cs0 ++ post0), Loc.own aI 211 1 (s) G h] X f w ∧ Rep.rels (Zb .u64) X h L ∧ s = L.length ∧ inR .u64 b) (fun _ br => ?_) ?_
  · have H := bp; refine wp_block ?_; obtain ⟨cB, bs, bt⟩ := Za H; have S := S.reorder (ℓ' := [Loc.box a E (pre0 ++ cs0 ++ post0), Loc.own (some aR) 211 1 ((J).toNat) (J).toNat aH]) [1, 0] rfl (by decide); refine Zna bs (fun bu f w => ∃ (Y : (List Int)) (ag : Int) (m : Int) (aw : Option Nat) (M : Nat) (Z : Nat) (I : List Value) (ax : Zd), (Y, ag, m) = bu ∧ Zd.le o ax ∧ St 79 ⟨R, [a]⟩ o [(0, .slice (some ⟨a, off0, none⟩) (g) C), (1, .slice q1 V W), (2, .int .u64 (q)), (7, .slice (mkA aw) (M) Z), (8, .int .u64 (ag)), (20, .slice q1 V W), (21, .int .i64 ((((Zi 18446744073709551616 v)).length : Int))), (22, .int .i64 (m))] [Loc.box a E (pre0 ++ cs0 ++ post0), Loc.own aw 211 1 (M) Z I] ax f w ∧ Rep.rels (Zb .u64) ax I Y ∧ M = Y.length ∧ inR .u64 ag ∧ inR .i64 m) ⟨_, _, _, some aR, (J).toNat, (J).toNat, aH, _, rfl, (leR _), (S.fr' rfl), bm, (Zyb (x := (0 : Int))), (by decide), (by decide)⟩ ?_; rintro _ f w st ⟨Y, ag, m, aw, M, Z, I, ax, hq, ay, S, ah, ai, bv, cC⟩ H cD bw bx; subst hq; have r := ZS ay r; refine sr (ov S rfl (Zj S rfl rfl Zba) fun f S => oe (Zf fun _ bz => ?_)); rcases Zw (decide (m < (((Zi 18446744073709551616 v)).length : Int))) with aj | aj
    · have H := Zy H aj; refine ZD S rfl aj (wp_skip (Zc (bz _ _ (Zf fun _ bA => wp_block (Zf fun _ bB => ?_))))); obtain ⟨aJ, aK, H⟩ := Za H; refine Zm (mv S rfl fun f S => ?_); have D := Zp ay D; obtain ⟨_, aS, aT, cE, rfl, bC, bD⟩ := Zga D (Zh aK).2.1; obtain ⟨rfl, bE⟩ := bD; refine ov S rfl (ZJ S rfl rfl ZU (Zh aK).1 (ltI (Zs D) (Zh aK).2.2.1)) fun f S => ov S rfl (ZY S rfl Zva (S.view bC)) fun f S => mw S rfl fun f S => mw S rfl fun f S => Zl (Zc (bB _ _ (Zf fun _ bF => ?_))); obtain ⟨aU, bG, H⟩ := Za H; refine Zm (mv S rfl fun f S => mv S rfl fun f S => opc S rfl (Zo S [.int .u64 (aJ), .int .u64 (q)] ZKj rfl rfl) (Zxj S.vin (show Rep.rel (Zb .u64) _ [.int .u64 (aJ)] aJ from (Zr bE)) (show Rep.rel (Zb .u64) _ [.int .u64 (q)] q from (Zr r4)) bG) ?_); rintro _ aV f w aL ⟨cF, cG, rfl, bH, bI⟩ S; have r := ZS aL r; have ah := ZS aL ah; obtain ⟨rfl, cH⟩ := bH; obtain ⟨rfl, cI⟩ := bI; refine mv S rfl fun f S => ov S rfl (ZR S rfl rfl) fun f S => ov S rfl (ZR S rfl rfl) fun f S => mw S rfl fun f S => mw S rfl fun f S => Zl (Zc (bF _ _ (sr (mw S rfl fun f S => oe (Zf fun _ bJ => ?_))))); obtain ⟨N, aW, H⟩ := Za H; obtain ⟨cJ, aa, H⟩ := Za H; refine Zm (mv S rfl fun f S => mv S rfl fun f S => mv S rfl fun f S => mv S rfl fun f S => ov S rfl (ZXe S [.int .u64 (aU.2), .int .u64 (ag), .int .u64 ((0 : Int))] (ZTf Z3f aW) rfl rfl) fun f S => mv S rfl fun f S => ov S rfl (ZR S rfl rfl) fun f S => ov S rfl (ZR S rfl rfl) fun f S => ?_)
      obtain ⟨aX, rfl⟩ := ZRb S (j := 1) rfl (ZYb ai (Zh aa).2.2.2); have aY := ZFa ah (Zh aa).2.1; obtain ⟨cK, bK⟩ : ∃ c, (List.take (Zb .u64).n (List.drop ((m).toNat * (Zb .u64).n) I)) = c := ⟨_, rfl⟩; rw [bK] at aY; obtain ⟨rfl, cL⟩ := aY; refine ov S rfl (ZJ S rfl rfl ZU (Zh aa).1 (ltI ai (Zh aa).2.2.1)) fun f S => ?_; obtain ⟨w, bL, S⟩ := ZMb S Zva (off := 0 + (m).toNat * 1) (z := .int .u64 (N.1)) (cs := [.int .u64 (N.1)]) (ZEb rfl) rfl (i := 1) rfl (ZUb S (j := 1) rfl (ltN ai (Zh aa).2.2.2)) (by first | rfl | simp [ZSa]); have bM : Rep.rels (Zb .u64) aV (List.take (0 + (m).toNat * 1) I ++ [Value.int IntKind.u64 (N.1)] ++ List.drop (0 + (m).toNat * 1 + 1) I) (Y.set (m).toNat N.1) := ZJb ah (Zh aa).2.2.2 (show Rep.rel (Zb .u64) aV [.int .u64 (N.1)] _ from (Zr (Z3h aW))) rfl rfl; have bN : M = (Y.set (m).toNat N.1).length := ZKb ai; refine Z0 wn rfl (bL rfl rfl) (mw S rfl fun f S => Zl ?_); have S := S.fr' (σ' := [(0, .slice (some ⟨a, off0, none⟩) (g) C), (1, .slice (some ⟨aS, aT, none⟩) V W), (2, .int .u64 (q)), (7, .slice (mkA (some aX)) (M) Z), (11, .int .u64 (aU.1)), (13, .int .u64 (N.2)), (20, .slice (some ⟨aS, aT, none⟩) V W), (21, .int .i64 ((((Zi 18446744073709551616 v)).length : Int))), (22, .int .i64 (m))]) rfl
      refine Zc (bJ _ _ (Zm (mv S rfl fun f S => mv S rfl fun f S => ov S rfl (Zj S rfl rfl ZHb) fun f S => mw S rfl fun f S => Zl (Zma (Zc (bA _ _ ?_)))))); obtain ⟨cM, aZ, H⟩ := Za H; refine Zm (ov S rfl (Zj S rfl rfl (Z9 aZ)) fun f S => mv S rfl fun f S => Zl ?_); obtain rfl := Zg H; refine bw _ rfl _ _ ⟨_, _, _, some aX, M, Z, (List.take (0 + (m).toNat * 1) I ++ [Value.int IntKind.u64 (N.1)] ++ List.drop (0 + (m).toNat * 1 + 1) I), _, rfl, (leT ay aL), (S.fr' rfl), bM, bN, (Zua _ _), (Z2 aZ).2⟩
    have H := Zx H aj; refine ZC S rfl aj (wp_exit (ZN ?_)); obtain rfl := Zg H; have hq := bx _ rfl; subst hq; have H := bt; refine ZN (Zha ?_); obtain rfl := Zg H; refine Zc (br _ _ ⟨_, _, aw, M, Z, I, _, rfl, (leT (leR _) ay), (S.fr' rfl), ah, ai, bv⟩)
  rintro f w ⟨L, b, aI, s, G, h, X, hq, a0, S, a1, az, bO⟩; subst hq; have H := bq; have r := ZS a0 r; refine Zc (bn _ _ (Zf fun _ bP => ?_)); obtain ⟨cN, ab, H⟩ := Za H; refine Zm (mv S rfl fun f S => mv S rfl fun f S => ?_); have D := Zp a0 D; refine ov S rfl (ZG S (Zs D) rfl rfl ZU) fun f S => mv S rfl fun f S => ?_; obtain ⟨ac, rfl⟩ := ZRb S (j := 1) rfl (ZYb az (Zh ab).2.2.2); have a2 := ZFa a1 (Zh ab).2.1; obtain ⟨cO, bQ⟩ : ∃ c, (List.take (Zb .u64).n (List.drop (((((Zi 18446744073709551616 v)).length : Int)).toNat * (Zb .u64).n) h)) = c := ⟨_, rfl⟩; rw [bQ] at a2; obtain ⟨rfl, cP⟩ := a2; refine ov S rfl (ZJ S rfl rfl ZU (Zh ab).1 (ltI az (Zh ab).2.2.1)) fun f S => ?_; obtain ⟨w, bR, S⟩ := ZMb S Zva (off := 0 + ((((Zi 18446744073709551616 v)).length : Int)).toNat * 1) (z := .int .u64 (b)) (cs := [.int .u64 (b)]) (ZEb rfl) rfl (i := 1) rfl (ZUb S (j := 1) rfl (ltN az (Zh ab).2.2.2)) (by first | rfl | simp [ZSa]); have p : Rep.rels (Zb .u64) X (List.take (0 + ((((Zi 18446744073709551616 v)).length : Int)).toNat * 1) h ++ [Value.int IntKind.u64 (b)] ++ List.drop (0 + ((((Zi 18446744073709551616 v)).length : Int)).toNat * 1 + 1) h) (L.set ((((Zi 18446744073709551616 v)).length : Int)).toNat b) := ZJb a1 (Zh ab).2.2.2 (show Rep.rel (Zb .u64) X [.int .u64 (b)] _ from (Zr bO)) rfl rfl
  have aM : s = (L.set ((((Zi 18446744073709551616 v)).length : Int)).toNat b).length := ZKb az; refine Z0 wn rfl (bR rfl rfl) (Zl (Zc (bP _ _ (Zf fun _ bS => Zf fun _ bT => ?_)))); obtain ⟨cQ, bU, H⟩ := Za H; obtain ⟨cR, bV, H⟩ := Za H; obtain ⟨bW, bX, H⟩ := Za H; refine Zm (mv S rfl fun f S => ?_); have p0s120 := r; have h69s120 := p; have bY := S.vst.le; obtain ⟨cS, cT, a3, t, S, bZ, b1, b2, T⟩ := S.lendSeg (i := 0) (A := (Zb .u64)) (l := u) (ℓ' := [Loc.own (some ac) 211 1 (s) G ((List.take (0 + ((((Zi 18446744073709551616 v)).length : Int)).toNat * 1) h ++ [Value.int IntKind.u64 (b)] ++ List.drop (0 + ((((Zi 18446744073709551616 v)).length : Int)).toNat * 1 + 1) h))]) rfl rfl aG r au bh; have p := ZS a3 p; refine opc S rfl (Zo S [.slice (some ⟨a, off0, none⟩) (g) C] ZBd rfl rfl) (Zrd S.vin (show Rep.rel (Zu (Zb .u64)) _ [.slice (some ⟨a, off0, none⟩) (g) C] u from T) bU) ?_; rintro _ cU f w aA ⟨cV, rfl, P⟩ S; have p := ZS aA p; have t := aA _ _ t; obtain ⟨b3, b4, b5, rfl⟩ := Z5 P; refine mv S rfl fun f S => ?_; have T := Zp aA T; have h128s137 := T; have h69s137 := p; have h133s137 := P; have h124s137 := t; have b6 := S.vst.le; obtain ⟨cW, cX, aB, ak, S, b7, b8, b9, ca⟩ := S.lendSlice (i := 0) (A := (Zb .u64)) (l := (L.set ((((Zi 18446744073709551616 v)).length : Int)).toNat b)) (ℓ' := []) rfl rfl rfl p aM
  have t := aB _ _ t; refine opc S rfl (Zo S [.slice (mkA (some ac)) (s) G] ZBd rfl rfl) (Zrd S.vin (show Rep.rel (Zu (Zb .u64)) _ [.slice (mkA (some ac)) (s) G] ((L.set ((((Zi 18446744073709551616 v)).length : Int)).toNat b)) from ca) bV) ?_; rintro _ cY f w al ⟨cZ, rfl, a4⟩ S; have t := al _ _ t; have ak := al _ _ ak; obtain ⟨cb, cc, cd, rfl⟩ := Z5 a4; have P := Zp (leT aB al) P; refine opc S rfl (Zo S [.slice b3 b4 b5, .slice cb cc cd] ZRj rfl rfl) (cmp_c S.vin P a4 bX) ?_; rintro _ c0 f w am ⟨c3, rfl, ce⟩ S; have t := am _ _ t; have ak := am _ _ ak; obtain ⟨rfl, c4⟩ := ce; refine ov S rfl (Zj S rfl rfl Zba) fun f S => Zl ?_; obtain ⟨c5, an, S⟩ := S.takeBack (e := Loc.own (some ac) 211 1 (s) G ((List.take (0 + ((((Zi 18446744073709551616 v)).length : Int)).toNat * 1) h ++ [Value.int IntKind.u64 (b)] ++ List.drop (0 + ((((Zi 18446744073709551616 v)).length : Int)).toNat * 1 + 1) h))) (leT (leT aB al) am) rfl ak b7 b8 b6 b9; have T := Zp (leT (leT aB al) am) T; have T := Zp an h128s137; have p := ZS an h69s137; have P := Zp am P; have P := Zp an h133s137; have t := an _ _ h124s137; obtain ⟨a5, a6, S⟩ := S.takeBack (e := Loc.box a E (pre0 ++ cs0 ++ post0)) (leT (leT a3 aA) an) rfl t bZ b1 bY b2; have r := ZS a6 p0s120
  have p := ZS a6 h69s120; refine Zc (bT _ _ ?_); rcases Zw (decide (bW < (0 : Int))) with ao | ao
  · have H := Zy H ao; refine ZD S rfl ao (sr (mw S rfl fun f S => oe (wp_ret (ZM ?_)))); obtain rfl := Zg H; refine ZDj S (ZL rfl (ZF S rfl)) ⟨⟨[.bool (false)], rfl, ZCa⟩, (S.boxAt (j := 0) rfl).2, _, (S.boxAt (j := 0) rfl).1, au, r⟩
  have H := Zx H ao; refine ZC S rfl ao (wp_skip (Zc (bS _ _ (sr (mw S rfl fun f S => oe (Zf fun _ cf => sr (mv S rfl fun f S => ov S rfl (ZG S au rfl rfl ZU) fun f S => mv S rfl fun f S => oe ?_))))))); obtain ⟨cg, ch, ci⟩ := Za H; refine ZO (fun f w => ∃ (aC : (List Int)) (aN : List Value) (aD : Zd), aC = cg ∧ Zd.le a5 aD ∧ St 79 ⟨R, [a]⟩ o [] [Loc.box a E (pre0 ++ aN ++ post0)] aD f w ∧ Rep.rels (Zb .u64) aD aN aC ∧ g = aC.length) (fun _ cj => ?_) ?_
  · have H := ch; refine wp_block ?_; obtain ⟨c6, ck, cl⟩ := Za H; refine Zna ck (fun cm f w => ∃ (ad : (List Int)) (ap : Int) (d : Int) (B : List Value) (ae : Zd), (ad, ap, d) = cm ∧ Zd.le a5 ae ∧ St 79 ⟨R, [a]⟩ o [(0, .slice (some ⟨a, off0, none⟩) (g) C), (7, .slice (mkA (some ac)) (s) G), (14, .int .u64 (ap)), (58, .int .i64 ((u.length : Int))), (59, .int .i64 (d))] [Loc.box a E (pre0 ++ B ++ post0), Loc.own (some ac) 211 1 (s) G ((List.take (0 + ((((Zi 18446744073709551616 v)).length : Int)).toNat * 1) h ++ [Value.int IntKind.u64 (b)] ++ List.drop (0 + ((((Zi 18446744073709551616 v)).length : Int)).toNat * 1 + 1) h))] ae f w ∧ Rep.rels (Zb .u64) ae B ad ∧ g = ad.length ∧ inR .u64 ap ∧ inR .i64 d) ⟨_, _, _, cs0, _, rfl, (leR _), (S.fr' rfl), r, au, (by decide), (by decide)⟩ ?_; rintro _ f w st ⟨ad, ap, d, B, ae, hq, aO, S, af, Q, c7, c8⟩ H c9 cn co; subst hq; have p := ZS aO p; refine sr (ov S rfl (Zj S rfl rfl Zba) fun f S => oe (Zf fun _ cp => ?_)); rcases Zw (decide (d < (u.length : Int))) with aq | aq
    · have H := Zy H aq; refine ZD S rfl aq (wp_skip (Zc (cp _ _ (Zf fun _ cq => wp_block (sr (mv S rfl fun f S => mw S rfl fun f S => oe ?_)))))); obtain ⟨a7, aE, H⟩ := Za H; obtain ⟨a8, aF, H⟩ := Za H; obtain ⟨U, aP, H⟩ := Za H; obtain ⟨da, ar, H⟩ := Za H; refine Zla (fl := #[true, true, true, true, true, true, true, true, true, true, true, false, true, true, true, true, false, false]) Zka (by kernel_rfl) S ?_; intro ops O F w S; refine rfa O F 0 rfl rfl S (Zn S rfl) fun f S => rfa O F 1 rfl rfl S (Zn S rfl) fun f S => rfa O F 2 rfl rfl S (Zn S rfl) fun f S => rfa O F 3 rfl rfl S (Zn S rfl) fun f S => ?_; have a9 := ZFa af (Zh aE).2.1; obtain ⟨db, ba⟩ : ∃ c, (List.take (Zb .u64).n (List.drop ((d).toNat * (Zb .u64).n) B)) = c := ⟨_, rfl⟩; rw [ba] at a9; obtain ⟨rfl, cr⟩ := a9; refine rfa O F 4 rfl rfl S (ZJ S rfl rfl ZU (Zh aE).1 (ltI Q (Zh aE).2.2.1)) fun f S => rfa O F 5 rfl rfl S (ZY S rfl Zva (ZSf S (j := 0) rfl aG (Zxb af Q) ba (ltN Q (Zh aE).2.2.2) 0 [.int .u64 (a7)] rfl zl)) fun f S => rfa O F 6 rfl rfl S (Zn S rfl) fun f S => rfa O F 7 rfl rfl S (Zn S rfl) fun f S => ?_; have bb := ZFa p (Zh aF).2.1; obtain ⟨dc, bc⟩ : ∃ c, (List.take (Zb .u64).n (List.drop ((d).toNat * (Zb .u64).n) (List.take (0 + ((((Zi 18446744073709551616 v)).length : Int)).toNat * 1) h ++ [Value.int IntKind.u64 (b)] ++ List.drop (0 + ((((Zi 18446744073709551616 v)).length : Int)).toNat * 1 + 1) h))) = c := ⟨_, rfl⟩
      rw [bc] at bb; obtain ⟨rfl, ct⟩ := bb; refine rfa O F 8 rfl rfl S (ZJ S rfl rfl ZU (Zh aF).1 (ltI aM (Zh aF).2.2.1)) fun f S => rfa O F 9 rfl rfl S (ZY S rfl Zva (ZYc S (j := 1) rfl bc (ltN aM (Zh aF).2.2.2) 0 [.int .u64 (a8)] rfl zl)) fun f S => rfa O F 10 rfl rfl S (Zn S rfl) fun f S => go1 O F 11 (nva [5, 9, 10, 4, 8, 2, 3, 6, 7] [0, 1] O rfl rfl S (ZXe S [.int .u64 (a7), .int .u64 (a8), .int .u64 (ap)] (Z4k ZFl cr ct aP) rfl rfl) fun f S => ⟨(py S rfl rfl (Zn S rfl) (py S rfl rfl (Zn S rfl) Zq)), rfa O F 12 rfl rfl S (Zn S rfl) fun f S => rfa O F 13 rfl rfl S (ZR S rfl rfl) fun f S => rfa O F 14 rfl rfl S (ZR S rfl rfl) fun f S => ?_⟩); have bd := ZFa af (Zh ar).2.1; obtain ⟨dd, cu⟩ : ∃ c, (List.take (Zb .u64).n (List.drop ((d).toNat * (Zb .u64).n) B)) = c := ⟨_, rfl⟩; rw [cu] at bd; obtain ⟨rfl, de⟩ := bd; refine rfa O F 15 rfl rfl S (ZJ S rfl rfl ZU (Zh ar).1 (ltI Q (Zh ar).2.2.1)) fun f S => go1 O F 16 ?_; obtain ⟨w, cv, S⟩ := Z8m S (k := (d).toNat) Zva (z := .int .u64 (U.1)) (c := [.int .u64 (U.1)]) (ZEb rfl) rfl (i := 0) rfl aG (Zxb af Q) (ltN Q (Zh ar).2.2.2) rfl (by first | rfl | simp [ZSa]); have cw : Rep.rels (Zb .u64) ae (List.take (0 + (d).toNat * 1) B ++ [Value.int IntKind.u64 (U.1)] ++ List.drop (0 + (d).toNat * 1 + 1) B) (ad.set (d).toNat U.1) := ZJb af (Zh ar).2.2.2 (show Rep.rel (Zb .u64) ae [.int .u64 (U.1)] _ from (Zr (Zok aP))) rfl rfl
      have cx : g = (ad.set (d).toNat U.1).length := ZKb Q; refine nxs [0, 1, 2, 3, 4, 5, 6, 7, 8, 9, 10, 11, 12, 13, 15] [14] O rfl rfl (cv rfl rfl) (⟨(py S rfl rfl (ZR S rfl rfl) Zq), go1 O F 17 (nva [0, 1, 2, 3, 4, 5, 6, 7, 8, 9, 10, 11, 12, 13, 14, 15, 16] [] O rfl rfl S (Zja S rfl) fun f S => ⟨Zq, Z6 O F (Zma (Zc (cq _ _ ?_)))⟩)⟩); obtain ⟨df, be, H⟩ := Za H; refine Zm (ov S rfl (Zj S rfl rfl (Z9 be)) fun f S => mv S rfl fun f S => Zl ?_); obtain rfl := Zg H; refine cn _ rfl _ _ ⟨_, _, _, (List.take (0 + (d).toNat * 1) B ++ [Value.int IntKind.u64 (U.1)] ++ List.drop (0 + (d).toNat * 1 + 1) B), _, rfl, aO, (S.fr' rfl), cw, cx, (Zik aP), (Z2 be).2⟩
    have H := Zx H aq; refine ZC S rfl aq (wp_exit (ZN ?_)); obtain rfl := Zg H; have hq := co _ rfl; subst hq; have H := cl; refine ZN (Zha ?_); obtain rfl := Zg H; have S := S.reorder (ℓ' := [Loc.box a E (pre0 ++ B ++ post0)]) [0] rfl (by decide); refine Zc (cj _ _ ⟨_, B, _, rfl, (leT (leR _) aO), (S.fr' rfl), af, Q⟩)
  rintro f w ⟨aC, aN, aD, hq, dg, S, cy, cz⟩; subst hq; have H := ci; refine Zc (cf _ _ (sr (mw S rfl fun f S => oe (wp_ret ?_)))); obtain rfl := Zg H; refine ZDj S (ZL rfl (ZF S rfl)) ⟨⟨[.bool (true)], rfl, ZCa⟩, (S.boxAt (j := 0) rfl).2, _, (S.boxAt (j := 0) rfl).1, cz, cy⟩
theorem take_c {d : World} {a : Zd} (hv : VIn a d) {b off0 c e : Nat} {f : TypeId} {pre0 cs0 post0 : List Value} {u : (List Int)} (l : d.heap[b]? = some (.cells (pre0 ++ cs0 ++ post0).toArray f (0, 0))) (m : off0 = pre0.length) (n : a b = none) (o : c = u.length) (p : c ≤ e ∧ e ≤ maxLen) (g : Rep.rels (Zb .u64) a cs0 u) {h : List Value} {v : Nat} (r : Rep.rel ZB a h v) {i : List Value} {q : Int} (j : Rep.rel (Zb .u64) a i q) {z : Bool × (List Int)} (hm : ZGf u v q = some z) :
    RetL Tryz.prog 197 #[Value.slice (some ⟨b, off0, none⟩) c e, ZB.val h, (Zb .u64).val i] d a [b] (fun y v' w' => (∃ k, y = ZQ.val k ∧ ZQ.rel v' k z.1) ∧ v' b = none ∧ ∃ cs, w'.heap[b]? = some (.cells (pre0 ++ cs ++ post0).toArray f (0, 0)) ∧ c = z.2.length ∧ Rep.rels (Zb .u64) v' cs z.2) :=
  take_w hv l m n o p g r j (ZOp (Zzj g) j.2 hm)
theorem digit_w {x : World} {m : Zd} (hv : VIn m x) {a off0 e h : Nat} {A : TypeId} {pre0 cs0 post0 : List Value} {u : (List Int)} (a0 : x.heap[a]? = some (.cells (pre0 ++ cs0 ++ post0).toArray A (0, 0))) (G : off0 = pre0.length) (a1 : m a = none) (k : e = u.length) (a2 : e ≤ h ∧ h ≤ maxLen) (d : Rep.rels (Zb .u64) m cs0 u) {c1 : List Value} {v : Nat} (g : Rep.rel ZB m c1 v) {z : Int × (List Int)} (H : ZLg u v = some z) : RetL Tryz.prog 178 #[.slice (some ⟨a, off0, none⟩) e h, ZB.val c1] x m [a] (fun y v' w' => (∃ r0, y = (Zb .u64).val r0 ∧ (Zb .u64).rel v' r0 z.1) ∧ v' a = none ∧ ∃ cs, w'.heap[a]? = some (.cells (pre0 ++ cs ++ post0).toArray A (0, 0)) ∧ e = z.2.length ∧ Rep.rels (Zb .u64) v' cs z.2) := by
  obtain ⟨q1, o, p, rfl⟩ := Z5 g; refine Zek (K := 90) (args := [.slice (some ⟨a, off0, none⟩) (e) h, .slice q1 o p]) hv a0 a1 Tryz.func178 rfl rfl zl fun f S => ?_; unfold ZLg at H; refine sr (mw S rfl fun f S => oe (sr (mv S rfl fun f S => ov S rfl (ZG S (Zs g) rfl rfl ZU) fun f S => mw S rfl fun f S => oe (sr (mw S rfl fun f S => oe (Zf fun _ a3 => Zf fun _ a4 => ?_)))))); obtain ⟨aE, V, H⟩ := Za H; obtain ⟨cf, a5, H⟩ := Za H; obtain ⟨a6, aj, H⟩ := Za H; refine Zla (fl := #[true, true, true, true, true, true, true, true, true, true]) Zka (by kernel_rfl) S ?_; intro ops O F w S; refine rfa O F 0 rfl rfl S (Zn S rfl) fun f S => rfa O F 1 rfl rfl S (Zn S rfl) fun f S => ?_; have aF := ZFa d (Zh V).2.1; obtain ⟨cg, aG⟩ : ∃ c, (List.take (Zb .u64).n (List.drop (((((Zi 18446744073709551616 v)).length : Int)).toNat * (Zb .u64).n) cs0)) = c := ⟨_, rfl⟩; rw [aG] at aF; obtain ⟨rfl, ch⟩ := aF; refine rfa O F 2 rfl rfl S (ZJ S rfl rfl ZU (Zh V).1 (ltI k (Zh V).2.2.1)) fun f S => rfa O F 3 rfl rfl S (ZY S rfl Zva (ZSf S (j := 0) rfl G (Zxb d k) aG (ltN k (Zh V).2.2.2) 0 [.int .u64 (aE)] rfl zl)) fun f S => rfa O F 4 rfl rfl S (Zn S rfl) fun f S => rfa O F 5 rfl rfl S (Zn S rfl) fun f S => rfa O F 6 rfl rfl S (Zj S rfl rfl (Zra a5)) fun f S => ?_; obtain ⟨_, r, s, ci, rfl, a7, a8⟩ := Zga g (Zh aj).2.1
  obtain ⟨rfl, cj⟩ := a8; refine rfa O F 7 rfl rfl S (ZJ S rfl rfl ZU (Zh aj).1 (ltI (Zs g) (Zh aj).2.2.1)) fun f S => rfa O F 8 rfl rfl S (ZY S rfl Zva (S.view a7)) fun f S => rfa O F 9 rfl rfl S (Zj S rfl rfl Zba) fun f S => Z6 O F (Zc (a4 _ _ ?_)); obtain ⟨a9, ba, bb⟩ := Za H; refine ZO (fun f w => ∃ (W : Int) (I : Zd), W = a9 ∧ Zd.le m I ∧ St 90 ⟨x, [a]⟩ m [(0, .slice (some ⟨a, off0, none⟩) (e) h), (1, .slice (some ⟨r, s, none⟩) o p), (6, .int .u64 (W))] [Loc.box a A (pre0 ++ cs0 ++ post0)] I f w ∧ inR .u64 W) (fun _ aH => ?_) ?_
  · have H := ba; rcases Zw (decide (aE < a6)) with J | J
    · have H := Zy H J; refine ZD S rfl J (sr (mw S rfl fun f S => oe (Zf fun _ bc => ?_))); obtain ⟨X, Y, H⟩ := Za H; obtain ⟨bd, be, H⟩ := Za H; obtain ⟨Z, aa, H⟩ := Za H; obtain ⟨ck, bf, H⟩ := Za H; obtain ⟨ak, al, H⟩ := Za H; obtain ⟨aI, bg, H⟩ := Za H; refine Zla (fl := #[true, true, true, true, true, true, true, true, true, true, true, true, true, true, false, true, true, true, false, false]) Zka (by kernel_rfl) S ?_; intro ops O F w S; refine rfa O F 0 rfl rfl S (Zn S rfl) fun f S => rfa O F 1 rfl rfl S (Zn S rfl) fun f S => ?_; have aJ := ZFa d (Zh Y).2.1; obtain ⟨cl, aK⟩ : ∃ c, (List.take (Zb .u64).n (List.drop (((((Zi 18446744073709551616 v)).length : Int)).toNat * (Zb .u64).n) cs0)) = c := ⟨_, rfl⟩; rw [aK] at aJ; obtain ⟨rfl, bh⟩ := aJ; refine rfa O F 2 rfl rfl S (ZJ S rfl rfl ZU (Zh Y).1 (ltI k (Zh Y).2.2.1)) fun f S => rfa O F 3 rfl rfl S (ZY S rfl Zva (ZSf S (j := 0) rfl G (Zxb d k) aK (ltN k (Zh Y).2.2.2) 0 [.int .u64 (X)] rfl zl)) fun f S => rfa O F 4 rfl rfl S (Zn S rfl) fun f S => rfa O F 5 rfl rfl S (Zn S rfl) fun f S => rfa O F 6 rfl rfl S (Zj S rfl rfl (Zra be)) fun f S => ?_; have aL := ZFa d (Zh aa).2.1; obtain ⟨cm, aM⟩ : ∃ c, (List.take (Zb .u64).n (List.drop ((bd).toNat * (Zb .u64).n) cs0)) = c := ⟨_, rfl⟩
      rw [aM] at aL; obtain ⟨rfl, bi⟩ := aL; refine rfa O F 7 rfl rfl S (ZJ S rfl rfl ZU (Zh aa).1 (ltI k (Zh aa).2.2.1)) fun f S => rfa O F 8 rfl rfl S (ZY S rfl Zva (ZSf S (j := 0) rfl G (Zxb d k) aM (ltN k (Zh aa).2.2.2) 0 [.int .u64 (Z)] rfl zl)) fun f S => rfa O F 9 rfl rfl S (Zn S rfl) fun f S => rfa O F 10 rfl rfl S (Zn S rfl) fun f S => rfa O F 11 rfl rfl S (Zj S rfl rfl (Zra bf)) fun f S => ?_; obtain ⟨cn, am, bj⟩ := ZGa g (Zh al).2.1; obtain ⟨rfl, bk⟩ := bj; refine rfa O F 12 rfl rfl S (ZJ S rfl rfl ZU (Zh al).1 (ltI (Zs g) (Zh al).2.2.1)) fun f S => rfa O F 13 rfl rfl S (ZY S rfl Zva (S.view am)) fun f S => go1 O F 14 (nxc [3, 8, 13, 2, 7, 12, 0, 1, 4, 6, 9, 11, 5, 10] [] O rfl S rfl (Zo S [.int .u64 (X), .int .u64 (Z), .int .u64 (ak)] Zuk rfl rfl) (ZNl S.vin (show Rep.rel (Zb .u64) _ [.int .u64 (X)] X from (Zr bh)) (show Rep.rel (Zb .u64) _ [.int .u64 (Z)] Z from (Zr bi)) (show Rep.rel (Zb .u64) _ [.int .u64 (ak)] ak from (Zr bk)) bg) ?_); rintro _ aN f w ab ⟨co, cp, rfl, bm, bn⟩ S; have d := ZS ab d; have am := Atm ab am; obtain ⟨rfl, bo⟩ := bm; obtain ⟨rfl, bp⟩ := bn; refine ⟨Zq, rfa O F 15 rfl rfl S (Zn S rfl) fun f S => rfa O F 16 rfl rfl S (ZR S rfl rfl) fun f S => rfa O F 17 rfl rfl S (ZR S rfl rfl) fun f S => go1 O F 18 (nva [0, 1, 2, 3, 4, 5, 6, 7, 8, 9, 10, 11, 12, 13, 14, 15, 16] [17] O rfl rfl S (Zja S rfl) fun f S => ⟨(py S rfl rfl (ZR S rfl rfl) Zq), go1 O F 19 (nva [0, 1, 2, 3, 4, 5, 6, 7, 8, 9, 10, 11, 12, 13, 14, 15, 16, 17, 18] [] O rfl rfl S (Zja S rfl) fun f S => ⟨Zq, Z6 O F ?_⟩)⟩)⟩
      have S := S.fr' (σ' := [(0, .slice (some ⟨a, off0, none⟩) (e) h), (1, .slice (some ⟨r, s, none⟩) o p), (5, .int .i64 ((((Zi 18446744073709551616 v)).length : Int))), (6, .int .u64 (aI.1)), (7, .int .u64 (aI.2))]) rfl; refine Zc (bc _ _ ?_); obtain ⟨bq, br, bs⟩ := Za H; refine ZO (fun f w => ∃ (ac : Int) (an : Zd), ac = bq ∧ Zd.le aN an ∧ St 90 ⟨x, [a]⟩ m [(0, .slice (some ⟨a, off0, none⟩) (e) h), (1, .slice (some ⟨r, s, none⟩) o p), (6, .int .u64 (ac))] [Loc.box a A (pre0 ++ cs0 ++ post0)] an f w ∧ inR .u64 ac) (fun _ aO => ?_) ?_
      · have H := br; refine wp_block ?_; obtain ⟨cq, bt, aP⟩ := Za H; refine Zna bt (fun bu f w => ∃ (q : Int) (l : Int) (ao : Zd), (q, l) = bu ∧ Zd.le aN ao ∧ St 90 ⟨x, [a]⟩ m [(0, .slice (some ⟨a, off0, none⟩) (e) h), (1, .slice (some ⟨r, s, none⟩) o p), (5, .int .i64 ((((Zi 18446744073709551616 v)).length : Int))), (6, .int .u64 (q)), (7, .int .u64 (l))] [Loc.box a A (pre0 ++ cs0 ++ post0)] ao f w ∧ inR .u64 q ∧ inR .u64 l) ⟨_, _, _, rfl, (leR _), (S.fr' rfl), bo, bp⟩ ?_; rintro _ f w st ⟨q, l, ao, hq, L, S, aQ, cr⟩ H ct bv aR; subst hq; have d := ZS L d; refine wp_block (Zf fun _ bw => ?_); obtain ⟨cu, bx, H⟩ := Za H; obtain ⟨ap, aq, H⟩ := Za H; obtain ⟨B, bz, H⟩ := Za H; refine Zm (mv S rfl fun f S => mv S rfl fun f S => mv S rfl fun f S => ov S rfl (Zj S rfl rfl (Zra bx)) fun f S => ?_); have g := Zp (leT ab L) g; obtain ⟨cv, ar, bA⟩ := ZGa g (Zh aq).2.1; obtain ⟨rfl, bB⟩ := bA; refine ov S rfl (ZJ S rfl rfl ZU (Zh aq).1 (ltI (Zs g) (Zh aq).2.2.1)) fun f S => ov S rfl (ZY S rfl Zva (S.view ar)) fun f S => opc S rfl (Zo S [.int .u64 (q), .int .u64 (ap)] ZKj rfl rfl) (Zxj S.vin (show Rep.rel (Zb .u64) _ [.int .u64 (q)] q from (Zr aQ)) (show Rep.rel (Zb .u64) _ [.int .u64 (ap)] ap from (Zr bB)) bz) ?_
        rintro _ bC f w D ⟨cw, cx, rfl, bD, bE⟩ S; have d := ZS D d; have ar := Atm D ar; obtain ⟨rfl, cy⟩ := bD; obtain ⟨rfl, cz⟩ := bE; refine mv S rfl fun f S => ov S rfl (ZR S rfl rfl) fun f S => ov S rfl (ZR S rfl rfl) fun f S => mw S rfl fun f S => mw S rfl fun f S => Zl (Zc (bw _ _ (Zf fun _ bF => Zf fun _ bG => ?_))); obtain ⟨bH, bI, bJ⟩ := Za H; refine ZO (fun f w => ∃ (ad : Bool) (au : Zd), ad = bH ∧ Zd.le bC au ∧ St 90 ⟨x, [a]⟩ m [(0, .slice (some ⟨a, off0, none⟩) (e) h), (1, .slice (some ⟨r, s, none⟩) o p), (5, .int .i64 ((((Zi 18446744073709551616 v)).length : Int))), (6, .int .u64 (q)), (7, .int .u64 (l)), (67, .bool (ad))] [Loc.box a A (pre0 ++ cs0 ++ post0)] au f w) (fun _ av => ?_) ?_
        · have H := bI; rcases Zw (decide (B.1 < l)) with E | E
          · have H := Zy H E; refine Zm (mv S rfl fun f S => mv S rfl fun f S => ov S rfl (Zj S rfl rfl Zba) fun f S => ?_); have S := S.bool (t := 53) rfl E; refine mv S rfl fun f S => opn S rfl rfl rfl rfl fun f S => opn S rfl rfl rfl rfl fun f S => opn S rfl rfl rfl rfl fun f S => opn S rfl rfl rfl rfl fun f S => Zqc S (ZGc S rfl rfl rfl zl) rfl zl fun f S => Zqc S (ZGc S rfl rfl rfl zl) rfl zl fun f S => Zqc S (ZGc S rfl rfl rfl zl) rfl zl fun f S => Zqc S (ZGc S rfl rfl rfl zl) rfl zl fun f S => Zqc S (ZGc S rfl rfl rfl zl) rfl zl fun f S => Zqc S (ZGc S rfl rfl rfl zl) rfl zl fun f S => Zqc S (ZGc S rfl rfl rfl zl) rfl zl fun f S => opn S rfl rfl rfl rfl fun f S => ov S rfl (ZP S (b := true) rfl rfl) fun f S => ?_; refine Zl ?_; have S := S.fr' (σ' := [(0, .slice (some ⟨a, off0, none⟩) (e) h), (1, .slice (some ⟨r, s, none⟩) o p), (5, .int .i64 ((((Zi 18446744073709551616 v)).length : Int))), (6, .int .u64 (q)), (7, .int .u64 (l)), (55, undef), (56, undef), (57, undef), (58, undef), (59, undef), (60, undef), (61, undef), (62, undef), (63, undef), (64, undef), (65, undef), (66, undef), (67, .bool (true))]) rfl; obtain rfl := Zg H; refine Zc (av _ _ ⟨_, _, rfl, (leR _), (S.fr' rfl)⟩)
          have H := Zx H E; rcases Zw (B.1 == l) with M | M
          · have H := Zy H M; obtain ⟨aw, bK, H⟩ := Za H; obtain ⟨N, ae, H⟩ := Za H; refine Zm (mv S rfl fun f S => mv S rfl fun f S => ov S rfl (Zj S rfl rfl Zba) fun f S => ?_); have S := S.bool (t := 53) rfl E; refine mv S rfl fun f S => opy S rfl rfl rfl rfl (Zn S rfl) fun f S => opy S rfl rfl rfl rfl (Zn S rfl) fun f S => opy S rfl rfl rfl rfl (Zj S rfl rfl Zfa) fun f S => ?_; have S := S.bool (t := 57) rfl M; refine opy S rfl rfl rfl rfl (Zn S rfl) fun f S => opy S rfl rfl rfl rfl (Zn S rfl) fun f S => opy S rfl rfl rfl rfl (Zn S rfl) fun f S => opy S rfl rfl rfl rfl (Zn S rfl) fun f S => opy S rfl rfl rfl rfl (Zj S rfl rfl (Zra bK)) fun f S => ?_; have aS := ZFa d (Zh ae).2.1; obtain ⟨cA, aT⟩ : ∃ c, (List.take (Zb .u64).n (List.drop ((aw).toNat * (Zb .u64).n) cs0)) = c := ⟨_, rfl⟩; rw [aT] at aS; obtain ⟨rfl, cB⟩ := aS; refine opy S rfl rfl rfl rfl (ZJ S rfl rfl ZU (Zh ae).1 (ltI k (Zh ae).2.2.1)) fun f S => opy S rfl rfl rfl rfl (ZY S rfl Zva (ZSf S (j := 0) rfl G (Zxb d k) aT (ltN k (Zh ae).2.2.2) 0 [.int .u64 (N)] rfl zl)) fun f S => opy S rfl rfl rfl rfl (Zj S rfl rfl Z1d) fun f S => opy S rfl rfl rfl rfl (ZP S (b := true) rfl rfl) fun f S => ov S rfl (ZP S (b := false) rfl rfl) fun f S => Zl ?_; have S := S.fr' (σ' := [(0, .slice (some ⟨a, off0, none⟩) (e) h), (1, .slice (some ⟨r, s, none⟩) o p), (5, .int .i64 ((((Zi 18446744073709551616 v)).length : Int))), (6, .int .u64 (q)), (7, .int .u64 (l)), (55, .int .u64 (B.1)), (56, .int .u64 (l)), (57, .bool (true)), (58, .bool (true)), (59, .int .u64 (B.2)), (60, .slice (some ⟨a, off0, none⟩) (e) h), (61, .int .i64 ((((Zi 18446744073709551616 v)).length : Int))), (62, .int .i64 (aw)), (63, .pointer (some ⟨a, off0 + (aw).toNat * 1, none⟩)), (64, .int .u64 (N)), (65, .bool (decide (B.2 ≤ N))), (66, .bool (decide (B.2 ≤ N))), (67, .bool (decide (B.2 ≤ N)))]) rfl
            obtain rfl := Zg H; refine Zc (av _ _ ⟨_, _, rfl, (leR _), (S.fr' rfl)⟩)
          have H := Zx H M; refine Zm (mv S rfl fun f S => mv S rfl fun f S => ov S rfl (Zj S rfl rfl Zba) fun f S => ?_); have S := S.bool (t := 53) rfl E; refine mv S rfl fun f S => opy S rfl rfl rfl rfl (Zn S rfl) fun f S => opy S rfl rfl rfl rfl (Zn S rfl) fun f S => opy S rfl rfl rfl rfl (Zj S rfl rfl Zfa) fun f S => ?_; have S := S.bool (t := 57) rfl M; refine opy S rfl rfl rfl rfl (Zn S rfl) fun f S => opn S rfl rfl rfl rfl fun f S => opn S rfl rfl rfl rfl fun f S => opn S rfl rfl rfl rfl fun f S => opn S rfl rfl rfl rfl fun f S => opn S rfl rfl rfl rfl fun f S => opn S rfl rfl rfl rfl fun f S => opn S rfl rfl rfl rfl fun f S => opy S rfl rfl rfl rfl (ZP S (b := false) rfl rfl) fun f S => ov S rfl (ZP S (b := false) rfl rfl) fun f S => Zl ?_; have S := S.fr' (σ' := [(0, .slice (some ⟨a, off0, none⟩) (e) h), (1, .slice (some ⟨r, s, none⟩) o p), (5, .int .i64 ((((Zi 18446744073709551616 v)).length : Int))), (6, .int .u64 (q)), (7, .int .u64 (l)), (55, .int .u64 (B.1)), (56, .int .u64 (l)), (57, .bool (false)), (58, .bool (false)), (59, undef), (60, undef), (61, undef), (62, undef), (63, undef), (64, undef), (65, undef), (66, .bool (false)), (67, .bool (false))]) rfl; obtain rfl := Zg H; refine Zc (av _ _ ⟨_, _, rfl, (leR _), (S.fr' rfl)⟩)
        rintro f w ⟨ad, au, hq, P, S⟩; subst hq; have H := bJ; have d := ZS P d; refine Zc (bG _ _ ?_); rcases Zw (ad) with Q | Q
        · have H := Zy H Q; refine ZD S rfl Q (wp_exit (ZN (Zph rfl ?_))); obtain rfl := Zg H; have hq := aR _ rfl; subst hq; have H := aP; refine ZN (Zha ?_); obtain rfl := Zg H; refine Zc (aO _ _ ⟨_, _, rfl, (leT (leT (leT (leR _) L) D) P), (S.fr' rfl), aQ⟩)
        have H := Zx H Q; refine ZC S rfl Q (wp_skip (Zc (bF _ _ (sr (mv S rfl fun f S => ov S rfl (Zj S rfl rfl ZId) fun f S => mw S rfl fun f S => oe (sr (mw S rfl fun f S => oe (Zf fun _ bL => ?_)))))))); obtain ⟨cC, bM, H⟩ := Za H; obtain ⟨bN, ax, H⟩ := Za H; obtain ⟨bO, aU, H⟩ := Za H; refine Zm (mv S rfl fun f S => mv S rfl fun f S => mv S rfl fun f S => ov S rfl (Zj S rfl rfl (Zra bM)) fun f S => ?_); have g := Zp (leT D P) g; obtain ⟨cD, bP, bQ⟩ := ZGa g (Zh ax).2.1; obtain ⟨rfl, cE⟩ := bQ; refine ov S rfl (ZJ S rfl rfl ZU (Zh ax).1 (ltI (Zs g) (Zh ax).2.2.1)) fun f S => ov S rfl (ZY S rfl Zva (S.view bP)) fun f S => ov S rfl (ZXe S [.int .u64 (l), .int .u64 (bN), .int .u64 ((0 : Int))] (ZTf Z3f aU) rfl rfl) fun f S => mv S rfl fun f S => ov S rfl (ZR S rfl rfl) fun f S => ov S rfl (ZR S rfl rfl) fun f S => mw S rfl fun f S => mw S rfl fun f S => Zl (Zc (bL _ _ (sr (mv S rfl fun f S => ov S rfl (Zj S rfl rfl ZDa) fun f S => oe ?_)))); rcases Zw (decide ((0 : Int) < bO.2)) with R | R
        · have H := Zy H R; refine ZD S rfl R (wp_exit (Zph rfl ?_)); obtain rfl := Zg H; have hq := aR _ rfl; subst hq; have H := aP; refine ZN (Zha ?_); obtain rfl := Zg H; refine Zc (aO _ _ ⟨_, _, rfl, (leT (leT (leT (leR _) L) D) P), (S.fr' rfl), (Zua _ _)⟩)
        have H := Zx H R; refine ZC S rfl R (wp_skip (Zma ?_)); obtain rfl := Zg H; refine bv _ rfl _ _ ⟨_, _, _, rfl, (leT (leT L D) P), (S.fr' rfl), (Zua _ _), (Z3h aU)⟩
      rintro f w ⟨ac, an, hq, aV, S, bR⟩; subst hq; have H := bs; have d := ZS aV d; obtain rfl := Zg H; refine Zc (aH _ _ ⟨_, _, rfl, (leT (leT (leR _) ab) aV), (S.fr' rfl), bR⟩)
    have H := Zx H J; refine ZC S rfl J (wp_skip ?_); obtain rfl := Zg H; refine Zc (aH _ _ ⟨_, _, rfl, (leR _), (S.fr' rfl), (by decide)⟩)
  rintro f w ⟨W, I, hq, aW, S, bS⟩; subst hq; have H := bb; have d := ZS aW d; refine Zc (a3 _ _ (Zf fun _ bT => ?_)); obtain ⟨bU, bV, bW⟩ := Za H; refine ZO (fun f w => ∃ (af : (List Int)) (T : Int) (ay : List Value) (ag : Zd), (af, T) = bU ∧ Zd.le I ag ∧ St 90 ⟨x, [a]⟩ m [(6, .int .u64 (T))] [Loc.box a A (pre0 ++ ay ++ post0)] ag f w ∧ Rep.rels (Zb .u64) ag ay af ∧ e = af.length ∧ inR .u64 T) (fun _ bX => ?_) ?_
  · have H := bV; refine wp_block ?_; obtain ⟨cF, bY, bZ⟩ := Za H; refine Zna bY (fun b1 f w => ∃ (ah : (List Int)) (C : Int) (az : List Value) (ai : Zd), (ah, C) = b1 ∧ Zd.le I ai ∧ St 90 ⟨x, [a]⟩ m [(0, .slice (some ⟨a, off0, none⟩) (e) h), (1, .slice (some ⟨r, s, none⟩) o p), (6, .int .u64 (C))] [Loc.box a A (pre0 ++ az ++ post0)] ai f w ∧ Rep.rels (Zb .u64) ai az ah ∧ e = ah.length ∧ inR .u64 C) ⟨_, _, cs0, _, rfl, (leR _), (S.fr' rfl), d, k, bS⟩ ?_; rintro _ f w st ⟨ah, C, az, ai, hq, aA, S, aB, b2, aX⟩ H cG b3 b4; subst hq; refine Zf fun _ b5 => Zf fun _ b6 => ?_; obtain ⟨b7, b8, H⟩ := Za H; refine Zm (mv S rfl fun f S => mv S rfl fun f S => mv S rfl fun f S => ?_); have g := Zp (leT aW aA) g; refine ZQk S wn rfl zl (Zo S [.slice (some ⟨a, off0, none⟩) (e) h, .slice (some ⟨r, s, none⟩) o p, .int .u64 (C)] k_en197 rfl rfl) (i := 0) rfl rfl (take_c S.vin (S.boxAt (j := 0) rfl).1 G (S.boxAt (j := 0) rfl).2 b2 a2 aB g (show Rep.rel (Zb .u64) _ [.int .u64 (C)] C from (Zr aX)) b8) ?_; rintro _ cH f w aC ⟨⟨cI, rfl, b9⟩, ca, aD, cb, aY, aZ⟩ hSf; have aB := ZS aC aB; have S := hSf (Loc.box a A (pre0 ++ aD ++ post0)) rfl cb ca; obtain rfl := b9; refine ov S rfl (Ztb S rfl) fun f S => Zl (Zc (b6 _ _ ?_)); rcases Zw (!(b7.1)) with U | U
    · have H := Zy H U; refine ZD S rfl U (wp_skip (Zc (b5 _ _ (wp_block (Zm (mv S rfl fun f S => ov S rfl (Zj S rfl rfl ZId) fun f S => mw S rfl fun f S => Zl (Zma ?_))))))); obtain rfl := Zg H; refine b3 _ rfl _ _ ⟨_, _, aD, _, rfl, (leT aA aC), (S.fr' rfl), aZ, aY, (Zua _ _)⟩
    have H := Zx H U; refine ZC S rfl U (wp_exit (ZN ?_)); obtain rfl := Zg H; have hq := b4 _ rfl; subst hq; have H := bZ; refine ZN (Zha ?_); obtain rfl := Zg H; refine Zc (bX _ _ ⟨_, _, aD, _, rfl, (leT (leT (leR _) aA) aC), (S.fr' rfl), aZ, aY, aX⟩)
  rintro f w ⟨af, T, ay, ag, hq, cJ, S, cc, cd, ce⟩; subst hq; have H := bW; refine Zc (bT _ _ (sr (mv S rfl fun f S => mw S rfl fun f S => oe (wp_ret ?_)))); obtain rfl := Zg H; refine ZDj S (ZL rfl (ZF S rfl)) ⟨⟨[.int .u64 (T)], rfl, (Zr ce)⟩, (S.boxAt (j := 0) rfl).2, _, (S.boxAt (j := 0) rfl).1, cd, cc⟩
theorem digit_c {d : World} {b : Zd} (hv : VIn b d) {a off0 c e : Nat} {f : TypeId} {pre0 cs0 post0 : List Value} {u : (List Int)} (j : d.heap[a]? = some (.cells (pre0 ++ cs0 ++ post0).toArray f (0, 0))) (k : off0 = pre0.length) (l : b a = none) (m : c = u.length) (n : c ≤ e ∧ e ≤ maxLen) (g : Rep.rels (Zb .u64) b cs0 u) {h : List Value} {v : Nat} (o : Rep.rel ZB b h v) {z : Int × (List Int)} (hm : ZCf u v = some z) :
    RetL Tryz.prog 178 #[Value.slice (some ⟨a, off0, none⟩) c e, ZB.val h] d b [a] (fun y v' w' => (∃ i, y = (Zb .u64).val i ∧ (Zb .u64).rel v' i z.1) ∧ v' a = none ∧ ∃ cs, w'.heap[a]? = some (.cells (pre0 ++ cs ++ post0).toArray f (0, 0)) ∧ c = z.2.length ∧ Rep.rels (Zb .u64) v' cs z.2) :=
  digit_w hv j k l m n g o (Z8o (Zzj g) hm)
theorem left_w {I : World} {o : Zd} (hv : VIn o I) {c0 : List Value} {a : Nat} (g : Rep.rel ZB o c0 a) {c1 : List Value} {n : Int} (p1 : Rep.rel (Zb .i64) o c1 n) {z : Nat} (H : ZBg a n = some z) : Ret Tryz.prog 177 #[ZB.val c0, (Zb .i64).val c1] I o (fun y v' => ∃ r0, y = ZB.val r0 ∧ ZB.rel v' r0 z) := by
  obtain ⟨W, J, L, rfl⟩ := Z5 g; obtain ⟨rfl, r4⟩ := p1; refine ZV (K := 58) (args := [.slice W J L, .int .i64 (n)]) hv Tryz.func177 rfl rfl zl fun f S => ?_; unfold ZBg at H; refine sr (mw S rfl fun f S => oe (Zf fun _ av => Zf fun _ aw => ?_)); obtain ⟨ax, ay, az⟩ := Za H; refine ZO (fun f w => ∃ (X : Bool) (v : Zd), X = ax ∧ Zd.le o v ∧ St 58 I o [(0, .slice W J L), (1, .int .i64 (n)), (14, .bool (X))] [] v f w) (fun _ ag => ?_) ?_
  · have H := ay; rcases Zw (((((Zi 18446744073709551616 a)).length : Int)) == ((0 : Int))) with M | M
    · have H := Zy H M; refine Zm (mv S rfl fun f S => ov S rfl (ZG S (Zs g) rfl rfl ZU) fun f S => ov S rfl (Zj S rfl rfl Zfa) fun f S => ?_); have S := S.bool (t := 10) rfl M; refine mv S rfl fun f S => opn S rfl rfl rfl rfl fun f S => opn S rfl rfl rfl rfl fun f S => ov S rfl (ZP S (b := true) rfl rfl) fun f S => Zl ?_; obtain rfl := Zg H; refine Zc (ag _ _ ⟨_, _, rfl, (leR _), (S.fr' rfl)⟩)
    have H := Zx H M; refine Zm (mv S rfl fun f S => ov S rfl (ZG S (Zs g) rfl rfl ZU) fun f S => ov S rfl (Zj S rfl rfl Zfa) fun f S => ?_); have S := S.bool (t := 10) rfl M; refine mv S rfl fun f S => opy S rfl rfl rfl rfl (Zn S rfl) fun f S => opy S rfl rfl rfl rfl (Zj S rfl rfl Zfa) fun f S => ov S rfl (ZP S (b := false) rfl rfl) fun f S => Zl ?_; obtain rfl := Zg H; refine Zc (ag _ _ ⟨_, _, rfl, (leR _), (S.fr' rfl)⟩)
  rintro f w ⟨X, v, hq, ah, S⟩; subst hq; have H := az; refine Zc (aw _ _ ?_); rcases Zw (X) with N | N
  · have H := Zy H N; refine ZD S rfl N (sr (mv S rfl fun f S => mw S rfl fun f S => oe (wp_ret (ZM ?_)))); obtain rfl := Zg H; have g := Zp ah g; refine Zz S (ZL rfl (ZF S rfl)) ⟨[.slice W J L], rfl, g⟩
  have H := Zx H N; refine ZC S rfl N (wp_skip (Zc (av _ _ (Zf fun _ aA => ?_)))); obtain ⟨bo, aB, H⟩ := Za H; obtain ⟨bp, aC, H⟩ := Za H; obtain ⟨B, aD, H⟩ := Za H; obtain ⟨bq, Y, H⟩ := Za H; refine Zm (mv S rfl fun f S => ?_); have g := Zp ah g; refine ov S rfl (ZG S (Zs g) rfl rfl ZU) fun f S => mv S rfl fun f S => ov S rfl (Zj S rfl rfl (ZTb aB)) fun f S => ov S rfl (Zj S rfl rfl (Z9 aC)) fun f S => ov S rfl (Zj S rfl rfl (Z9 aD)) fun f S => ?_; obtain ⟨ai, aj⟩ : ∃ c : List Value, c = (List.replicate (B).toNat [.int .u64 ((0 : Int))]).flatten := ⟨_, rfl⟩; obtain ⟨aE, w, aF, S⟩ := Z6b Zzc S (l := B) (c := B) (Zda Y).1 (Zda Y).2.1 (Zda Y).2.2.1 (Zda Y).2.2.2 aj; have aG : Rep.rels (Zb .u64) v ai (List.replicate (B).toNat ((0 : Int))) := by rw [aj]; exact ZVb (show Rep.rel (Zb .u64) _ [.int .u64 ((0 : Int))] _ from (Zr (by decide))) _
  refine Zpa wn rfl zl (aF rfl rfl) S fun f S => mw S rfl fun f S => Zl (Zc (aA _ _ (Zf fun _ aH => sr (mv S rfl fun f S => ov S rfl (ZG S (Zs g) rfl rfl ZU) fun f S => mv S rfl fun f S => oe ?_)))); obtain ⟨aI, aJ, aK⟩ := Za H; refine ZO (fun f w => ∃ (C : (List Int)) (P : Option Nat) (D : Nat) (Q : Nat) (ac : List Value) (Z : Zd), C = aI ∧ Zd.le v Z ∧ St 58 I o [(5, .slice (mkA P) (D) Q)] [Loc.own P 211 1 (D) Q ac] Z f w ∧ Rep.rels (Zb .u64) Z ac C ∧ D = C.length) (fun _ aL => ?_) ?_
  · have H := aJ; refine wp_block ?_; obtain ⟨br, aM, aN⟩ := Za H; refine Zna aM (fun aO f w => ∃ (p : (List Int)) (E : Int) (aa : Option Nat) (m : Nat) (G : Nat) (e : List Value) (q : Zd), (p, E) = aO ∧ Zd.le v q ∧ St 58 I o [(1, .int .i64 (n)), (5, .slice (mkA aa) (m) G), (23, .slice W J L), (24, .int .i64 ((((Zi 18446744073709551616 a)).length : Int))), (25, .int .i64 (E))] [Loc.own aa 211 1 (m) G e] q f w ∧ Rep.rels (Zb .u64) q e p ∧ m = p.length ∧ inR .i64 E) ⟨_, _, some aE, (B).toNat, (B).toNat, ai, _, rfl, (leR _), (S.fr' rfl), aG, (Zyb (x := (0 : Int))), (by decide)⟩ ?_; rintro _ f w st ⟨p, E, aa, m, G, e, q, hq, ad, S, ab, s, bs⟩ H bt aP aQ; subst hq; refine sr (ov S rfl (Zj S rfl rfl Zba) fun f S => oe (Zf fun _ aR => ?_)); rcases Zw (decide (E < (((Zi 18446744073709551616 a)).length : Int))) with R | R
    · have H := Zy H R; refine ZD S rfl R (wp_skip (Zc (aR _ _ (Zf fun _ aS => wp_block (Zf fun _ aT => ?_))))); obtain ⟨bu, ae, H⟩ := Za H; refine Zm (mv S rfl fun f S => ?_); have g := Zp ad g; obtain ⟨_, aU, aV, bv, rfl, aW, aX⟩ := Zga g (Zh ae).2.1; obtain ⟨rfl, aY⟩ := aX; refine ov S rfl (ZJ S rfl rfl ZU (Zh ae).1 (ltI (Zs g) (Zh ae).2.2.1)) fun f S => ov S rfl (ZY S rfl Zva (S.view aW)) fun f S => mw S rfl fun f S => mw S rfl fun f S => Zl (Zc (aT _ _ (Zf fun _ aZ => ?_))); obtain ⟨bw, a0, H⟩ := Za H; obtain ⟨d, a1, H⟩ := Za H; obtain ⟨h, T, H⟩ := Za H; obtain ⟨bx, a2, H⟩ := Za H; obtain ⟨k, a3, H⟩ := Za H; obtain ⟨bz, U, H⟩ := Za H; refine Zla (fl := #[true, true, true, true, true, true, true, true, true, true, true, true, true, false]) Zka (by kernel_rfl) S ?_; intro ops O F w S; refine rfa O F 0 rfl rfl S (Zn S rfl) fun f S => rfa O F 1 rfl rfl S (Zn S rfl) fun f S => rfa O F 2 rfl rfl S (Zn S rfl) fun f S => rfa O F 3 rfl rfl S (Zj S rfl rfl (ZTb a0)) fun f S => rfa O F 4 rfl rfl S (Zj S rfl rfl (Z9 a1)) fun f S => ?_; obtain ⟨ak, rfl⟩ := ZRb S (j := 0) rfl (ZYb s (Zh T).2.2.2); have al := ZFa ab (Zh T).2.1; obtain ⟨bA, am⟩ : ∃ c, (List.take (Zb .u64).n (List.drop ((d).toNat * (Zb .u64).n) e)) = c := ⟨_, rfl⟩
      rw [am] at al; obtain ⟨rfl, bB⟩ := al; refine rfa O F 5 rfl rfl S (ZJ S rfl rfl ZU (Zh T).1 (ltI s (Zh T).2.2.1)) fun f S => rfa O F 6 rfl rfl S (ZY S rfl Zva (ZYc S (j := 0) rfl am (ltN s (Zh T).2.2.2) 0 [.int .u64 (h)] rfl zl)) fun f S => rfa O F 7 rfl rfl S (Zn S rfl) fun f S => rfa O F 8 rfl rfl S (Zn S rfl) fun f S => rfa O F 9 rfl rfl S (Zj S rfl rfl (Zsc a2)) fun f S => rfa O F 10 rfl rfl S (Zj S rfl rfl (ZRd a3)) fun f S => rfa O F 11 rfl rfl S (Zj S rfl rfl ZKe) fun f S => ?_; have an := ZFa ab (Zh U).2.1; obtain ⟨bC, a4⟩ : ∃ c, (List.take (Zb .u64).n (List.drop ((d).toNat * (Zb .u64).n) e)) = c := ⟨_, rfl⟩; rw [a4] at an; obtain ⟨rfl, bD⟩ := an; refine rfa O F 12 rfl rfl S (ZJ S rfl rfl ZU (Zh U).1 (ltI s (Zh U).2.2.1)) fun f S => go1 O F 13 ?_; obtain ⟨w, a5, S⟩ := ZMb S Zva (off := 0 + (d).toNat * 1) (z := .int .u64 (orI .u64 h k)) (cs := [.int .u64 (orI .u64 h k)]) (ZEb rfl) rfl (i := 0) rfl (ZUb S (j := 0) rfl (ltN s (Zh U).2.2.2)) (by first | rfl | simp [ZSa]); have ao : Rep.rels (Zb .u64) q (List.take (0 + (d).toNat * 1) e ++ [Value.int IntKind.u64 (orI .u64 h k)] ++ List.drop (0 + (d).toNat * 1 + 1) e) (p.set (d).toNat (orI .u64 h k)) := ZJb ab (Zh U).2.2.2 (show Rep.rel (Zb .u64) q [.int .u64 (orI .u64 h k)] _ from (Zr (Zua _ _))) rfl rfl
      have af : m = (p.set (d).toNat (orI .u64 h k)).length := ZKb s; refine nxs [0, 1, 2, 3, 4, 5, 6, 7, 8, 9, 10, 11, 12] [] O rfl rfl (a5 rfl rfl) (⟨Zq, Z6 O F (Zc (aZ _ _ ?_))⟩); obtain ⟨bE, a6, H⟩ := Za H; obtain ⟨bF, a7, H⟩ := Za H; obtain ⟨r, a8, H⟩ := Za H; obtain ⟨bG, a9, H⟩ := Za H; obtain ⟨bH, ba, H⟩ := Za H; obtain ⟨u, ap, H⟩ := Za H; obtain ⟨bI, V, H⟩ := Za H; refine Zm (mv S rfl fun f S => mv S rfl fun f S => mv S rfl fun f S => ov S rfl (Zj S rfl rfl (ZTb a6)) fun f S => ov S rfl (Zj S rfl rfl (Z9 a7)) fun f S => ov S rfl (Zj S rfl rfl (Z9 a8)) fun f S => mv S rfl fun f S => mv S rfl fun f S => ov S rfl (Zj S rfl rfl (Zsc a9)) fun f S => ov S rfl (Zj S rfl rfl (Zra ba)) fun f S => ov S rfl (Zj S rfl rfl (ZBb ap)) fun f S => ?_); have aq := ZFa ao (Zh V).2.1; obtain ⟨bJ, bb⟩ : ∃ c, (List.take (Zb .u64).n (List.drop ((r).toNat * (Zb .u64).n) (List.take (0 + (d).toNat * 1) e ++ [Value.int IntKind.u64 (orI .u64 h k)] ++ List.drop (0 + (d).toNat * 1 + 1) e))) = c := ⟨_, rfl⟩; rw [bb] at aq; obtain ⟨rfl, bK⟩ := aq; refine ov S rfl (ZJ S rfl rfl ZU (Zh V).1 (ltI af (Zh V).2.2.1)) fun f S => ?_; obtain ⟨w, bc, S⟩ := ZMb S Zva (off := 0 + (r).toNat * 1) (z := .int .u64 (u)) (cs := [.int .u64 (u)]) (ZEb rfl) rfl (i := 0) rfl (ZUb S (j := 0) rfl (ltN af (Zh V).2.2.2)) (by first | rfl | simp [ZSa])
      have bd : Rep.rels (Zb .u64) q (List.take (0 + (r).toNat * 1) ((List.take (0 + (d).toNat * 1) e ++ [Value.int IntKind.u64 (orI .u64 h k)] ++ List.drop (0 + (d).toNat * 1 + 1) e)) ++ [Value.int IntKind.u64 (u)] ++ List.drop (0 + (r).toNat * 1 + 1) ((List.take (0 + (d).toNat * 1) e ++ [Value.int IntKind.u64 (orI .u64 h k)] ++ List.drop (0 + (d).toNat * 1 + 1) e))) (((p.set (d).toNat (orI .u64 h k))).set (r).toNat u) := ZJb ao (Zh V).2.2.2 (show Rep.rel (Zb .u64) q [.int .u64 (u)] _ from (Zr (Zpd aY ap))) rfl rfl; have be : m = (((p.set (d).toNat (orI .u64 h k))).set (r).toNat u).length := ZKb af; refine Z0 wn rfl (bc rfl rfl) (Zl ?_); have S := S.fr' (σ' := [(1, .int .i64 (n)), (5, .slice (mkA (some ak)) (m) G), (23, .slice (some ⟨aU, aV, none⟩) J L), (24, .int .i64 ((((Zi 18446744073709551616 a)).length : Int))), (25, .int .i64 (E))]) rfl; refine Zma (Zc (aS _ _ ?_)); obtain ⟨bL, ar, H⟩ := Za H; refine Zm (ov S rfl (Zj S rfl rfl (Z9 ar)) fun f S => mv S rfl fun f S => Zl ?_); obtain rfl := Zg H; refine aP _ rfl _ _ ⟨_, _, some ak, m, G, (List.take (0 + (r).toNat * 1) ((List.take (0 + (d).toNat * 1) e ++ [Value.int IntKind.u64 (orI .u64 h k)] ++ List.drop (0 + (d).toNat * 1 + 1) e)) ++ [Value.int IntKind.u64 (u)] ++ List.drop (0 + (r).toNat * 1 + 1) ((List.take (0 + (d).toNat * 1) e ++ [Value.int IntKind.u64 (orI .u64 h k)] ++ List.drop (0 + (d).toNat * 1 + 1) e))), _, rfl, ad, (S.fr' rfl), bd, be, (Z2 ar).2⟩
    have H := Zx H R; refine ZC S rfl R (wp_exit (ZN ?_)); obtain rfl := Zg H; have hq := aQ _ rfl; subst hq; have H := aN; refine ZN (Zha ?_); obtain rfl := Zg H; refine Zc (aL _ _ ⟨_, aa, m, G, e, _, rfl, (leT (leR _) ad), (S.fr' rfl), ab, s⟩)
  rintro f w ⟨C, P, D, Q, ac, Z, hq, bM, S, bf, bg⟩; subst hq; have H := aK; refine Zc (aH _ _ (Zf fun _ bh => ?_)); obtain ⟨bN, bi, H⟩ := Za H; refine Zm (mv S rfl fun f S => ?_); obtain ⟨bO, bP, S, bj⟩ := S.pubSlice (i := 0) (A := (Zb .u64)) (l := C) (ℓ' := []) rfl rfl bg bf rfl; refine opc S rfl (Zo S [.slice (mkA P) (D) Q] ZBd rfl rfl) (Zrd S.vin (show Rep.rel (Zu (Zb .u64)) _ [.slice (mkA P) (D) Q] C from bj) bi) ?_; rintro _ bQ f w bR ⟨bS, rfl, au⟩ S; obtain ⟨bk, bm, bn, rfl⟩ := Z5 au; refine mw S rfl fun f S => Zl (Zc (bh _ _ (wp_ret ?_))); obtain rfl := Zg H; refine Zz S (ZL rfl (ZF S rfl)) ⟨[.slice bk bm bn], rfl, au⟩
theorem ZGh {c : World} {b : Zd} (hv : VIn b c) {d : List Value} {a : Nat} (g : Rep.rel ZB b d a) {e : List Value} {n : Int} (h : Rep.rel (Zb .i64) b e n) {z : Nat} (hm : Zxc a n = some z) :
    Ret Tryz.prog 177 #[ZB.val d, (Zb .i64).val e] c b (fun y v' => ∃ f, y = ZB.val f ∧ ZB.rel v' f z) :=
  left_w hv g h (ZNn hm)
theorem right_w {C : World} {g : Zd} (hv : VIn g C) {c0 : List Value} {a : Nat} (h : Rep.rel ZB g c0 a) {c1 : List Value} {n : Int} (p1 : Rep.rel (Zb .i64) g c1 n) {z : Nat} (H : ZYg a n = some z) : Ret Tryz.prog 179 #[ZB.val c0, (Zb .i64).val c1] C g (fun y v' => ∃ r0, y = ZB.val r0 ∧ ZB.rel v' r0 z) := by
  obtain ⟨q1, P, Q, rfl⟩ := Z5 h; obtain ⟨rfl, r4⟩ := p1; refine ZV (K := 65) (args := [.slice q1 P Q, .int .i64 (n)]) hv Tryz.func179 rfl rfl zl fun f S => ?_; unfold ZYg at H; refine sr (mw S rfl fun f S => oe (Zf fun _ ax => Zf fun _ ay => ?_)); obtain ⟨az, aA, H⟩ := Za H; refine Zm (mv S rfl fun f S => ov S rfl (Zj S rfl rfl (ZTb aA)) fun f S => mv S rfl fun f S => ov S rfl (ZG S (Zs h) rfl rfl ZU) fun f S => ov S rfl (Zj S rfl rfl Zib) fun f S => Zl (Zc (ay _ _ ?_))); rcases Zw (decide ((((Zi 18446744073709551616 a)).length : Int) ≤ az)) with D | D
  · have H := Zy H D; refine ZD S rfl D (sr (mw S rfl fun f S => oe (wp_ret (ZM ?_)))); obtain rfl := Zg H; refine Zz S (ZL rfl (ZF S rfl)) ⟨[.slice none 0 0], rfl, (ZIf _)⟩
  have H := Zx H D; refine ZC S rfl D (wp_skip (Zc (ax _ _ (Zf fun _ aB => ?_)))); obtain ⟨bx, aC, H⟩ := Za H; obtain ⟨k, aD, H⟩ := Za H; obtain ⟨bz, R, H⟩ := Za H; refine Zm (mv S rfl fun f S => ov S rfl (ZG S (Zs h) rfl rfl ZU) fun f S => mv S rfl fun f S => ov S rfl (Zj S rfl rfl (ZTb aC)) fun f S => ov S rfl (Zj S rfl rfl (Zra aD)) fun f S => ?_); obtain ⟨ai, aj⟩ : ∃ c : List Value, c = (List.replicate (k).toNat [.int .u64 ((0 : Int))]).flatten := ⟨_, rfl⟩; obtain ⟨aE, w, aF, S⟩ := Z6b Zzc S (l := k) (c := k) (Zda R).1 (Zda R).2.1 (Zda R).2.2.1 (Zda R).2.2.2 aj; have aG : Rep.rels (Zb .u64) g ai (List.replicate (k).toNat ((0 : Int))) := by rw [aj]; exact ZVb (show Rep.rel (Zb .u64) _ [.int .u64 ((0 : Int))] _ from (Zr (by decide))) _
  refine Zpa wn rfl zl (aF rfl rfl) S fun f S => mw S rfl fun f S => Zl (Zc (aB _ _ (Zf fun _ aH => sr (mv S rfl fun f S => ov S rfl (ZG S (Zyb (x := (0 : Int))) rfl rfl ZU) fun f S => mv S rfl fun f S => oe ?_)))); obtain ⟨aI, aJ, aK⟩ := Za H; refine ZO (fun f w => ∃ (t : (List Int)) (E : Option Nat) (u : Nat) (G : Nat) (ac : List Value) (T : Zd), t = aI ∧ Zd.le g T ∧ St 65 C g [(5, .slice (mkA E) (u) G)] [Loc.own E 211 1 (u) G ac] T f w ∧ Rep.rels (Zb .u64) T ac t ∧ u = t.length) (fun _ aL => ?_) ?_
  · have H := aJ; refine wp_block ?_; obtain ⟨bA, aM, aN⟩ := Za H; refine Zna aM (fun aO f w => ∃ (p : (List Int)) (b : Int) (U : Option Nat) (m : Nat) (r : Nat) (d : List Value) (o : Zd), (p, b) = aO ∧ Zd.le g o ∧ St 65 C g [(0, .slice q1 P Q), (1, .int .i64 (n)), (5, .slice (mkA U) (m) r), (19, .int .i64 ((((List.replicate (k).toNat ((0 : Int)))).length : Int))), (20, .int .i64 (b))] [Loc.own U 211 1 (m) r d] o f w ∧ Rep.rels (Zb .u64) o d p ∧ m = p.length ∧ inR .i64 b) ⟨_, _, some aE, (k).toNat, (k).toNat, ai, _, rfl, (leR _), (S.fr' rfl), aG, (Zyb (x := (0 : Int))), (by decide)⟩ ?_; rintro _ f w st ⟨p, b, U, m, r, d, o, hq, ad, S, ae, I, bB⟩ H bC aP aQ; subst hq; refine sr (ov S rfl (Zj S rfl rfl Zba) fun f S => oe (Zf fun _ aR => ?_)); rcases Zw (decide (b < (((List.replicate (k).toNat ((0 : Int)))).length : Int))) with J | J
    · have H := Zy H J; refine ZD S rfl J (wp_skip (Zc (aR _ _ (Zf fun _ aS => wp_block (sr (mv S rfl fun f S => mw S rfl fun f S => oe (Zf fun _ aT => ?_))))))); obtain ⟨bD, aU, H⟩ := Za H; obtain ⟨bE, aV, H⟩ := Za H; obtain ⟨bF, af, H⟩ := Za H; obtain ⟨bG, aW, H⟩ := Za H; obtain ⟨e, ak, H⟩ := Za H; obtain ⟨bH, v, H⟩ := Za H; refine Zm (mv S rfl fun f S => mv S rfl fun f S => mv S rfl fun f S => mv S rfl fun f S => mv S rfl fun f S => ov S rfl (Zj S rfl rfl (ZTb aU)) fun f S => ov S rfl (Zj S rfl rfl (Z9 aV)) fun f S => ?_); have h := Zp ad h; obtain ⟨_, al, am, bI, rfl, aX, aY⟩ := Zga h (Zh af).2.1; obtain ⟨rfl, aZ⟩ := aY; refine ov S rfl (ZJ S rfl rfl ZU (Zh af).1 (ltI (Zs h) (Zh af).2.2.1)) fun f S => ov S rfl (ZY S rfl Zva (S.view aX)) fun f S => mv S rfl fun f S => ov S rfl (Zj S rfl rfl (Zsc aW)) fun f S => ov S rfl (Zj S rfl rfl (ZBb ak)) fun f S => ?_; obtain ⟨ag, rfl⟩ := ZRb S (j := 0) rfl (ZYb I (Zh v).2.2.2); have an := ZFa ae (Zh v).2.1; obtain ⟨bJ, a0⟩ : ∃ c, (List.take (Zb .u64).n (List.drop ((b).toNat * (Zb .u64).n) d)) = c := ⟨_, rfl⟩; rw [a0] at an; obtain ⟨rfl, bK⟩ := an; refine ov S rfl (ZJ S rfl rfl ZU (Zh v).1 (ltI I (Zh v).2.2.1)) fun f S => ?_
      obtain ⟨w, a1, S⟩ := ZMb S Zva (off := 0 + (b).toNat * 1) (z := .int .u64 (e)) (cs := [.int .u64 (e)]) (ZEb rfl) rfl (i := 0) rfl (ZUb S (j := 0) rfl (ltN I (Zh v).2.2.2)) (by first | rfl | simp [ZSa]); have V : Rep.rels (Zb .u64) o (List.take (0 + (b).toNat * 1) d ++ [Value.int IntKind.u64 (e)] ++ List.drop (0 + (b).toNat * 1 + 1) d) (p.set (b).toNat e) := ZJb ae (Zh v).2.2.2 (show Rep.rel (Zb .u64) o [.int .u64 (e)] _ from (Zr (Zpd aZ ak))) rfl rfl; have B : m = (p.set (b).toNat e).length := ZKb I; refine Z0 wn rfl (a1 rfl rfl) (Zl (Zc (aT _ _ (Zf fun _ a2 => ?_)))); obtain ⟨bL, a3, H⟩ := Za H; obtain ⟨bM, a4, H⟩ := Za H; obtain ⟨ao, a5, H⟩ := Za H; refine Zm (mv S rfl fun f S => mv S rfl fun f S => ov S rfl (Zj S rfl rfl (ZTb a3)) fun f S => ov S rfl (Zj S rfl rfl (Z9 a4)) fun f S => ov S rfl (Zj S rfl rfl (Z9 a5)) fun f S => mv S rfl fun f S => ov S rfl (ZG S (Zs h) rfl rfl ZU) fun f S => ov S rfl (Zj S rfl rfl Zba) fun f S => Zl ?_); have S := S.fr' (σ' := [(0, .slice (some ⟨al, am, none⟩) P Q), (1, .int .i64 (n)), (5, .slice (mkA (some ag)) (m) r), (6, .int .i64 (b)), (19, .int .i64 ((((List.replicate (k).toNat ((0 : Int)))).length : Int))), (20, .int .i64 (b)), (43, .bool (decide (ao < (((Zi 18446744073709551616 a)).length : Int))))]) rfl
      refine Zc (a2 _ _ ?_); obtain ⟨a6, a7, a8⟩ := Za H; refine ZO (fun f w => ∃ (W : (List Int)) (X : Option Nat) (L : Nat) (Y : Nat) (Z : List Value) (aa : Zd), W = a6 ∧ Zd.le o aa ∧ St 65 C g [(0, .slice (some ⟨al, am, none⟩) P Q), (1, .int .i64 (n)), (5, .slice (mkA X) (L) Y), (19, .int .i64 ((((List.replicate (k).toNat ((0 : Int)))).length : Int))), (20, .int .i64 (b))] [Loc.own X 211 1 (L) Y Z] aa f w ∧ Rep.rels (Zb .u64) aa Z W ∧ L = W.length) (fun _ ap => ?_) ?_
      · have H := a7; rcases Zw (decide (ao < (((Zi 18446744073709551616 a)).length : Int))) with M | M
        · have H := Zy H M; refine ZD S rfl M ?_; obtain ⟨q, ab, H⟩ := Za H; obtain ⟨bN, a9, H⟩ := Za H; obtain ⟨bO, ba, H⟩ := Za H; obtain ⟨bP, bb, H⟩ := Za H; obtain ⟨bQ, ah, H⟩ := Za H; obtain ⟨bR, bc, H⟩ := Za H; obtain ⟨bS, bd, H⟩ := Za H; obtain ⟨s, be, H⟩ := Za H; obtain ⟨bT, N, H⟩ := Za H; refine Zla (fl := #[true, true, true, true, true, true, true, true, true, true, true, true, true, true, true, true, true, true, false]) Zka (by kernel_rfl) S ?_; intro ops O F w S; refine rfa O F 0 rfl rfl S (Zn S rfl) fun f S => rfa O F 1 rfl rfl S (Zn S rfl) fun f S => ?_; have aq := ZFa V (Zh ab).2.1; obtain ⟨bU, ar⟩ : ∃ c, (List.take (Zb .u64).n (List.drop ((b).toNat * (Zb .u64).n) (List.take (0 + (b).toNat * 1) d ++ [Value.int IntKind.u64 (e)] ++ List.drop (0 + (b).toNat * 1 + 1) d))) = c := ⟨_, rfl⟩; rw [ar] at aq; obtain ⟨rfl, bV⟩ := aq; refine rfa O F 2 rfl rfl S (ZJ S rfl rfl ZU (Zh ab).1 (ltI B (Zh ab).2.2.1)) fun f S => rfa O F 3 rfl rfl S (ZY S rfl Zva (ZYc S (j := 0) rfl ar (ltN B (Zh ab).2.2.2) 0 [.int .u64 (q)] rfl zl)) fun f S => rfa O F 4 rfl rfl S (Zn S rfl) fun f S => rfa O F 5 rfl rfl S (Zn S rfl) fun f S => rfa O F 6 rfl rfl S (Zn S rfl) fun f S => rfa O F 7 rfl rfl S (Zj S rfl rfl (ZTb a9)) fun f S => rfa O F 8 rfl rfl S (Zj S rfl rfl (Z9 ba)) fun f S => rfa O F 9 rfl rfl S (Zj S rfl rfl (Z9 bb)) fun f S => ?_
          obtain ⟨bW, bf, bg⟩ := ZGa h (Zh ah).2.1; obtain ⟨rfl, bX⟩ := bg; refine rfa O F 10 rfl rfl S (ZJ S rfl rfl ZU (Zh ah).1 (ltI (Zs h) (Zh ah).2.2.1)) fun f S => rfa O F 11 rfl rfl S (ZY S rfl Zva (S.view bf)) fun f S => rfa O F 12 rfl rfl S (Zn S rfl) fun f S => rfa O F 13 rfl rfl S (Zj S rfl rfl (Zsc bc)) fun f S => rfa O F 14 rfl rfl S (Zj S rfl rfl (Zra bd)) fun f S => rfa O F 15 rfl rfl S (Zj S rfl rfl (ZRd be)) fun f S => rfa O F 16 rfl rfl S (Zj S rfl rfl ZKe) fun f S => ?_; have au := ZFa V (Zh N).2.1; obtain ⟨bY, bh⟩ : ∃ c, (List.take (Zb .u64).n (List.drop ((b).toNat * (Zb .u64).n) (List.take (0 + (b).toNat * 1) d ++ [Value.int IntKind.u64 (e)] ++ List.drop (0 + (b).toNat * 1 + 1) d))) = c := ⟨_, rfl⟩; rw [bh] at au; obtain ⟨rfl, bZ⟩ := au; refine rfa O F 17 rfl rfl S (ZJ S rfl rfl ZU (Zh N).1 (ltI B (Zh N).2.2.1)) fun f S => go1 O F 18 ?_; obtain ⟨w, bi, S⟩ := ZMb S Zva (off := 0 + (b).toNat * 1) (z := .int .u64 (orI .u64 q s)) (cs := [.int .u64 (orI .u64 q s)]) (ZEb rfl) rfl (i := 0) rfl (ZUb S (j := 0) rfl (ltN B (Zh N).2.2.2)) (by first | rfl | simp [ZSa]); have bj : Rep.rels (Zb .u64) o (List.take (0 + (b).toNat * 1) ((List.take (0 + (b).toNat * 1) d ++ [Value.int IntKind.u64 (e)] ++ List.drop (0 + (b).toNat * 1 + 1) d)) ++ [Value.int IntKind.u64 (orI .u64 q s)] ++ List.drop (0 + (b).toNat * 1 + 1) ((List.take (0 + (b).toNat * 1) d ++ [Value.int IntKind.u64 (e)] ++ List.drop (0 + (b).toNat * 1 + 1) d))) (((p.set (b).toNat e)).set (b).toNat (orI .u64 q s)) := ZJb V (Zh N).2.2.2 (show Rep.rel (Zb .u64) o [.int .u64 (orI .u64 q s)] _ from (Zr (Zua _ _))) rfl rfl
          have bk : m = (((p.set (b).toNat e)).set (b).toNat (orI .u64 q s)).length := ZKb B; refine nxs [0, 1, 2, 3, 4, 5, 6, 7, 8, 9, 10, 11, 12, 13, 14, 15, 16, 17] [] O rfl rfl (bi rfl rfl) (⟨Zq, Z6 O F ?_⟩); obtain rfl := Zg H; refine Zc (ap _ _ ⟨_, some ag, m, r, (List.take (0 + (b).toNat * 1) ((List.take (0 + (b).toNat * 1) d ++ [Value.int IntKind.u64 (e)] ++ List.drop (0 + (b).toNat * 1 + 1) d)) ++ [Value.int IntKind.u64 (orI .u64 q s)] ++ List.drop (0 + (b).toNat * 1 + 1) ((List.take (0 + (b).toNat * 1) d ++ [Value.int IntKind.u64 (e)] ++ List.drop (0 + (b).toNat * 1 + 1) d))), _, rfl, (leR _), (S.fr' rfl), bj, bk⟩)
        have H := Zx H M; refine ZC S rfl M (wp_skip ?_); obtain rfl := Zg H; refine Zc (ap _ _ ⟨_, some ag, m, r, (List.take (0 + (b).toNat * 1) d ++ [Value.int IntKind.u64 (e)] ++ List.drop (0 + (b).toNat * 1 + 1) d), _, rfl, (leR _), (S.fr' rfl), V, B⟩)
      rintro f w ⟨W, X, L, Y, Z, aa, hq, bm, S, bn, bo⟩; subst hq; have H := a8; refine Zma (Zc (aS _ _ ?_)); obtain ⟨b0, av, H⟩ := Za H; refine Zm (ov S rfl (Zj S rfl rfl (Z9 av)) fun f S => mv S rfl fun f S => Zl ?_); obtain rfl := Zg H; refine aP _ rfl _ _ ⟨_, _, X, L, Y, Z, _, rfl, (leT ad bm), (S.fr' rfl), bn, bo, (Z2 av).2⟩
    have H := Zx H J; refine ZC S rfl J (wp_exit (ZN ?_)); obtain rfl := Zg H; have hq := aQ _ rfl; subst hq; have H := aN; refine ZN (Zha ?_); obtain rfl := Zg H; refine Zc (aL _ _ ⟨_, U, m, r, d, _, rfl, (leT (leR _) ad), (S.fr' rfl), ae, I⟩)
  rintro f w ⟨t, E, u, G, ac, T, hq, b1, S, bp, bq⟩; subst hq; have H := aK; refine Zc (aH _ _ (Zf fun _ br => ?_)); obtain ⟨b2, bs, H⟩ := Za H; refine Zm (mv S rfl fun f S => ?_); obtain ⟨b3, b4, S, bt⟩ := S.pubSlice (i := 0) (A := (Zb .u64)) (l := t) (ℓ' := []) rfl rfl bq bp rfl; refine opc S rfl (Zo S [.slice (mkA E) (u) G] ZBd rfl rfl) (Zrd S.vin (show Rep.rel (Zu (Zb .u64)) _ [.slice (mkA E) (u) G] t from bt) bs) ?_; rintro _ b5 f w b6 ⟨b7, rfl, aw⟩ S; obtain ⟨bu, bv, bw, rfl⟩ := Z5 aw; refine mw S rfl fun f S => Zl (Zc (br _ _ (wp_ret ?_))); obtain rfl := Zg H; refine Zz S (ZL rfl (ZF S rfl)) ⟨[.slice bu bv bw], rfl, aw⟩
theorem right_c {c : World} {b : Zd} (hv : VIn b c) {d : List Value} {a : Nat} (h : Rep.rel ZB b d a) {e : List Value} {n : Int} (f : Rep.rel (Zb .i64) b e n) {z : Nat} (hm : Ztf a n = some z) :
    Ret Tryz.prog 179 #[ZB.val d, (Zb .i64).val e] c b (fun y v' => ∃ g, y = ZB.val g ∧ ZB.rel v' g z) :=
  right_w hv h f (Z1m f.2 hm)
end Go.Eng
