/- Lemmas towards the statement: the engine of the walks, the functions' models, laws and walks, part 3. Conditions: as each states. -/
import Derived.Lib.AppendStr
import Derived.Lib.Builder
import Derived.Lib.UnsafeStr
import Derived.Test.YtmmnpljhffbjhaaGreatProg
import Derived.Test.YtmmnpljhffbjhaaGreatStB
set_option linter.all false
set_option maxRecDepth 100000
namespace Go.Eng
noncomputable def Z7h (n : Int) (d : Int) : Option (Rat × Int) :=
 ifb (d == ((0 : Int)))
 (bnd (ZJd ((0 : Int))) fun c =>
 some ((c, (3 : Int))))
 (bnd (ZJd n) fun a =>
 bnd (ZJd d) fun b =>
 bnd (Zie ((decide (a.num < 0)) != (decide (b.num < 0))) a.num.natAbs b.num.natAbs) fun e =>
 some ((e, (0 : Int))))
noncomputable def Zli (r : (Int × Int)) : Option (Rat) :=
 ifb (r.2 == ((0 : Int)))
 (bnd (ZJd r.1) fun a =>
 some a)
 (bnd (Zng r.1 r.2) fun b =>
 some b.1)
noncomputable def ZZg (x : Rat) : Option (Int) :=
 bnd (ZAf x) fun a =>
 ifb (a)
 (some ((0 : Int)))
 (ifb (decide (x.num < 0))
 (some ((-1 : Int)))
 (some ((1 : Int))))
theorem Z3e {n : Nat} (h : n ≤ 18446744073709551616) : Zfb n := Zmm (Nat.le_trans (Z6b (show n < 2 ^ 65 by omega)) (by decide))
theorem ZRl (n : Int) : mkRat n 1 = (n : Rat) := by
  have := Rat.mkRat_self (n : Rat)
  simpa using this
theorem Zkn {n : Int} (h1 : -9223372036854775808 ≤ n) (h2 : n ≤ 9223372036854775807) : ZLf n = some (n : Rat) := by
  unfold ZLf; rw [Zxl]; unfold Zad Zie; by_cases h : n < 0
  · obtain ⟨k, rfl⟩ : ∃ k : Nat, n = -(k : Int) := ⟨n.natAbs, by omega⟩; have e1 : IntKind.u64.wrap (-(IntKind.u64.wrap (-(k : Int)))) = (k : Int) := by rw [wrap_u64, wrap_u64]; omega
    rw [decide_eq_true h, ZH, e1, Zg, Zg, Int.toNat_natCast, if_pos ⟨Z3e (by omega), Z3e (by omega), by omega⟩, Zg, ZRl]; rfl
  · obtain ⟨k, rfl⟩ := Int.eq_ofNat_of_zero_le (show 0 ≤ n by omega); rw [decide_eq_false h, ZG, ZJb (by omega), Zg, Zg, Int.toNat_natCast, if_pos ⟨Z3e (by omega), Z3e (by omega), by omega⟩, Zg, ZRl]; rfl
theorem Zin {n : Int} {z : Rat} (hn : inR .i64 n) (h : ZJd n = some z) : ZLf n = some z := by
  have := ZFb.1 hn; unfold ZJd at h; rw [Zkn (by omega) (by omega), h]
theorem Z1o (n m : Int) : sgn (decide (n < 0) != decide (m < 0)) n.natAbs = if m < 0 then -n else n := by
  have := Z6i n m; unfold Zdb at this; exact Option.some.inj this
theorem Zqo {n d : Int} {z : Rat × Int} (hn : inR .i64 n) (hd : inR .i64 d) (h : Zng n d = some z) : Z7h n d = some z := by
  have hn := ZFb.1 hn; have hd := ZFb.1 hd; unfold Zng at h
  cases h
  unfold Z7h ZJd; by_cases h0 : d = 0
  · subst h0; rfl
  · have e0 : (d == 0) = false := by simp [h0]
    rw [e0, ZG, if_neg h0, Zg, Zg]; unfold Zie; rw [Rat.num_intCast, Rat.num_intCast, if_pos ⟨Z3e (by omega), Z3e (by omega), by omega⟩, Zg, Z1o, ← Zwi]
theorem rofF_eq {r : Int × Int} {z : Rat} (h : Zed r = some z) : Zli r = some z := by
  unfold Zed at h
  cases h
  unfold Zli Z1a ZJd Zng; by_cases h0 : r.2 = 0
  · rw [if_pos h0, h0]; rfl
  · have : (r.2 == 0) = false := by simp [h0]
    rw [this, ZG, Zg, if_neg h0, if_neg h0]
theorem Z0o {x : Rat} {z : Int} (h : ZQe x = some z) : ZZg x = some z := by
  unfold ZQe at h
  cases h
  unfold ZZg ZAf; rw [Zg]; by_cases h0 : x = 0
  · subst h0; rfl
  · have := Zbj h0; rw [decide_eq_false h0, ZG]; by_cases h1 : x.num < 0
    · rw [decide_eq_true h1, ZH, Int.sign_eq_neg_one_of_neg h1]
    · rw [decide_eq_false h1, ZG, Int.sign_eq_one_of_pos (by omega)]
end Go.Eng
namespace Go.Eng
open Go.RowKit
def Zzk (P : Program) (f : FuncId) (T e : TypeId) : Prop := ∀ (B b : Nat) (bs : List Value) (s : ByteArray) (w : World), Lib.IsBuilder T e B b bs w → bs.length + s.size ≤ 140737488355328 → B ≤ w.heap.size →
  Calls P f #[.pointer (some ⟨b, 0, none⟩), .string s] w fun x w' => x = .returned (.tuple #[.int .i64 s.size, .nilIface]) ∧ (Lib.BuilderAt T e B b (.pointer (some ⟨b, 0, none⟩)) (bs ++ Lib.strCells s) w' ∧ Below B w w')
def Tells (P : Program) (f : FuncId) (T e : TypeId) : Prop := ∀ (B b : Nat) (l : List UInt8) (w : World), Lib.IsBuilder T e B b (Lib.byteCells l) w → B ≤ w.heap.size →
  Calls P f #[.pointer (some ⟨b, 0, none⟩)] w fun x w' => x = .returned (.string ⟨l.toArray⟩) ∧ Below B w w'
structure Bld (T e b : Nat) (w0 : Base) (v : Zd) (m : List UInt8) (w : World) : Prop where
  is : Lib.IsBuilder T e b b (Lib.byteCells m) w
  old : ∀ k o, v k = some o → k < b
  base : w0.wd.heap.size ≤ b
  lt : b ≤ w.heap.size
variable {P : Program} {K : Nat} {w0 : Base} {v0 : Zd} {σ : List (Nat × Value)} {ℓ : List Loc} {v : Zd} {a : Act} {w : World}
variable {ops : Array Oper} {Q : Exit → Act → World → Prop} {rest : List Oper}
theorem St.below {w' : World} {b : Nat} (h : St K w0 v0 σ [] v a w) (x : Below b w w') (hv : ∀ k o, v k = some o → k < b) (hb : w0.wd.heap.size ≤ b) : St K w0 v0 σ [] v a w' :=
  ⟨h.size, h.dfr, h.fr, ⟨x.os.trans h.ext.os, x.tape.trans h.ext.tape, x.output.trans h.ext.output, Nat.le_trans h.ext.size x.size, fun k hk hn => (x.block k (by omega)).trans (h.ext.block k hk hn)⟩,
    ⟨h.vst.le, fun k o e => (x.block k (hv k o e)).trans (h.vst.vin k o e), h.vst.old⟩, fun e he => by simp at he, List.nodup_nil⟩
theorem op_newB {o : Oper} {d T : Nat} (e : Nat) (hS : St K w0 v0 σ ℓ v a w) (hw : Region.wanted o (yielded ops a.tmps) = true) (hd : o.dst = some d) (hK : d < K)
    (hrun : (execOp a.eval o).run P w = .ok (.value (.pointer (some ⟨w.heap.size, 0, none⟩))) (w.alloc (.cells #[.pointer none, .slice none 0 0] T)))
    (h : ∀ b a w, St K w0 v0 ((d, .pointer (some ⟨b, 0, none⟩)) :: σ) [] v a w → Bld T e b w0 v [] w → wpList P ops Q rest a w) : wpList P ops Q (o :: rest) a w :=
  ZNd hw (ZCe hrun (by
    rw [hd]
    have h1 : St K w0 v0 σ [] v a w := hS.drop (List.nil_sublist _)
    have h2 : Ext w (w.alloc (.cells #[.pointer none, .slice none 0 0] T)) := Ext.alloc w _
    exact h w.heap.size _ _ ((h1.step h2 (VStep.ext h1.vin h2)).put _ hK) ⟨Lib.fresh_isBuilder T e w, fun k o hk => h1.vin.lt hk, h1.ext.size, h2.size⟩))
theorem Zno (l l' : List UInt8) : Lib.byteCells l ++ Lib.strCells (Zla l') = Lib.byteCells (l ++ l') := by simp [Lib.byteCells, Lib.strCells, Zla]
theorem Zvp {o : Oper} {d f T e b : Nat} {m s : List UInt8} (hW : Zzk P f T e) (hB : Bld T e b w0 v m w) (hl : (m ++ s).length ≤ 140737488355328) (hS : St K w0 v0 σ [] v a w) (hw : Region.wanted o (yielded ops a.tmps) = true) (hd : o.dst = some d) (hK : d < K)
    (hrun : (execOp a.eval o).run P w = .ok (.enter f #[.pointer (some ⟨b, 0, none⟩), .string (Zla s)]) w)
    (h : ∀ a w, St K w0 v0 ((d, .tuple #[.int .i64 s.length, .nilIface]) :: σ) [] v a w → Bld T e b w0 v (m ++ s) w → wpList P ops Q rest a w) : wpList P ops Q (o :: rest) a w := by
  have hc := hW b b (Lib.byteCells m) (Zla s) w hB.is (by rw [Lib.byteCells_length, Zae, ← List.length_append]; exact hl) hB.lt; refine ZNd hw (ZHg hrun (Calls.mono hc fun x w' ⟨e1, e2, e3⟩ => ⟨_, e1, ?_⟩)); rw [hd]; rw [Zae] at *; rw [Zno] at e2; exact h _ _ ((hS.below e3 hB.old hB.base).put _ hK) ⟨.inr e2, hB.old, hB.base, Nat.le_trans hB.lt e3.size⟩
theorem op_tell {o : Oper} {d f T e b : Nat} {m : List UInt8} (hT : Tells P f T e) (hB : Bld T e b w0 v m w) (hS : St K w0 v0 σ [] v a w) (hw : Region.wanted o (yielded ops a.tmps) = true) (hd : o.dst = some d) (hK : d < K)
    (hrun : (execOp a.eval o).run P w = .ok (.enter f #[.pointer (some ⟨b, 0, none⟩)]) w)
    (h : ∀ a w, St K w0 v0 ((d, .string (Zla m)) :: σ) [] v a w → wpList P ops Q rest a w) : wpList P ops Q (o :: rest) a w := by
  have hc := hT b b m w hB.is hB.lt; refine ZNd hw (ZHg hrun (Calls.mono hc fun x w' ⟨e1, e3⟩ => ⟨_, e1, ?_⟩)); rw [hd]; exact h _ _ ((hS.below e3 hB.old hB.base).put _ hK)
def Ztg (l : List UInt8) : Option Unit := if l.length ≤ 140737488355328 then some () else none
theorem ZPo {l : List UInt8} {u : Unit} (h : Ztg l = some u) : l.length ≤ 140737488355328 := by
  unfold Ztg at h; split at h
  · assumption
  · cases h
theorem Zuo {q : Option Nat} {b o : Nat} (h : mkA q = some ⟨b, o, none⟩) : q = some b ∧ o = 0 := by
  cases q with
  | none => cases h
  | some c => cases h; exact ⟨rfl, rfl⟩
noncomputable def Z8f (a : Nat) : Option ((List UInt8)) :=
 bnd (bnd (ZW (fun s : Nat × (List (List UInt8)) => match s with
 | (h, c) =>
 (ifb (decide ((0 : Int) < (((Zi 18446744073709551616 h)).length : Int)))
 (bnd (ZQd h ((10000000000000000000 : Int))) fun d =>
 bnd (Zof d.2) fun b =>
 bnd (ifb (decide ((0 : Int) < (((Zi 18446744073709551616 d.1)).length : Int)))
 (bnd (chk .i64 (((19 : Int)) - ((b.length : Int)))) fun m =>
 bnd (Z1e (([48] : List UInt8)) m) fun i =>
 bnd (ZPc (i ++ b)) fun r =>
 some ((i ++ b)))
 (some b))
 (fun (j : (List UInt8)) =>
 (bnd (Z0a 16 (c ++ [j])) fun t =>
 some (.inl ((d.1, (c ++ [j])))))))
 (some (.inr c)))) Z3 ((a, ([] : (List (List UInt8))))))
 (fun (n : (List (List UInt8))) =>
 (some n)))
 (fun (e : (List (List UInt8))) =>
 (ifb (((e.length : Int)) == ((0 : Int)))
 (some (([48] : List UInt8)))
 (bnd (chk .i64 (((e.length : Int)) - ((1 : Int)))) fun o =>
 bnd (bnd (ZW (fun s : (List UInt8) × Int => match s with
 | (f, g) =>
 (ifb (decide ((0 : Int) ≤ g))
 (bnd (idx e g) fun k =>
 bnd (Ztg (f ++ k)) fun u =>
 bnd (chk .i64 (g - ((1 : Int)))) fun p =>
 some (.inl (((f ++ k), p))))
 (some (.inr f)))) Z3 ((([] : List UInt8), o)))
 (fun (q : (List UInt8)) =>
 (some q)))
 (fun (l : (List UInt8)) =>
 (bnd (ZPc l) fun v =>
 some l)))))
noncomputable def Zui (x : Rat) : Option ((List UInt8)) :=
 bnd (ZVe ((x.num).natAbs)) fun a =>
 bnd (ifb (decide (x.num < 0))
 (bnd (ZPc ((([45] : List UInt8)) ++ a)) fun e =>
 some (((([45] : List UInt8)) ++ a)))
 (some a))
 (fun (b : (List UInt8)) =>
 (bnd (ifb (decide ((0 : Int) < (((Zi 18446744073709551616 ((ZWa x.den)))).length : Int)))
 (bnd (ZVe ((ZWa x.den))) fun c =>
 bnd (ZPc ((([47] : List UInt8)) ++ c)) fun f =>
 bnd (ZPc (b ++ (((([47] : List UInt8)) ++ c)))) fun g =>
 some ((b ++ (((([47] : List UInt8)) ++ c)))))
 (some b))
 (fun (d : (List UInt8)) =>
 (some d))))
theorem Znk (n : Nat) : (ZIa n).length ≤ bl n := by
  induction n using Nat.strongRecOn with
  | ind n ih =>
    by_cases h : n = 0
    · subst h; rw [Z8c]; simp
    · rw [ZAe h, List.length_append]; have h1 := ih (n / 10) (by omega); have h2 : bl (n / 10) + 1 ≤ bl n := by
        rw [Z1i h]; exact Nat.add_le_add_right (ZFd (by omega)) 1
      simp only [List.length_cons, List.length_nil]; omega
theorem Zem {n k : Nat} (h : n < 10 ^ k) : (ZIa n).length ≤ k := by
  induction k generalizing n with
  | zero => simp at h; subst h; rw [Z8c]; simp
  | succ k ih =>
    by_cases h0 : n = 0
    · subst h0; rw [Z8c]; simp
    · rw [ZAe h0, List.length_append]; have := ih (n := n / 10) (by rw [Nat.pow_succ] at h; omega); simp only [List.length_cons, List.length_nil]; omega
theorem ZLn {q : Nat} (hq : q ≠ 0) : ∀ (k r : Nat), r < 10 ^ k → ZIa (q * 10 ^ k + r) = ZIa q ++ (List.replicate (k - (ZIa r).length) 48 ++ ZIa r) := by
  intro k
  induction k with
  | zero => intro r h; simp at h; subst h; rw [Z8c]; simp
  | succ k ih =>
    intro r h; rw [Nat.pow_succ] at h; have hn : q * 10 ^ (k + 1) + r ≠ 0 := by
      have : 0 < q * 10 ^ (k + 1) := Nat.mul_pos (by omega) (Nat.pow_pos (by omega)); omega
    have e1 : (q * 10 ^ (k + 1) + r) / 10 = q * 10 ^ k + r / 10 := by rw [Nat.pow_succ, ← Nat.mul_assoc]; generalize q * 10 ^ k = p; omega
    have e2 : (q * 10 ^ (k + 1) + r) % 10 = r % 10 := by rw [Nat.pow_succ, ← Nat.mul_assoc]; generalize q * 10 ^ k = p; omega
    rw [ZAe hn, e1, e2, ih (r / 10) (by omega)]; by_cases h0 : r = 0
    · subst h0; simp only [Nat.zero_div, Z8c, List.length_nil, Nat.sub_zero, List.append_nil, List.append_assoc]; congr 1; rw [List.replicate_succ']; rfl
    · rw [ZAe h0, List.length_append]; simp only [List.length_cons, List.length_nil, List.append_assoc]; rw [show k + 1 - ((ZIa (r / 10)).length + (0 + 1)) = k - (ZIa (r / 10)).length by omega]
theorem ZRf {l : List UInt8} (h : l.length ≤ 140737488355328) : ZPc l = some () := by unfold ZPc; rw [if_pos (by unfold maxLen; omega)]
theorem ZNo {n : Nat} : ZIa n = [] ↔ n = 0 := by
  constructor
  · intro h; rcases Nat.eq_zero_or_pos n with h0 | h0
    · exact h0
    · rw [ZAe (by omega)] at h; simp at h
  · rintro rfl; exact Z8c
theorem ZOn (r : List (List UInt8)) (j : Nat) : ((r.drop j).reverse.flatten).length ≤ r.reverse.flatten.length := by
  have h : r.reverse.flatten = (r.drop j).reverse.flatten ++ (r.take j).reverse.flatten := by
    rw [← List.flatten_append, ← List.reverse_append, List.take_append_drop]
  rw [h, List.length_append]; omega
theorem Z8j (c : UInt8) : ∀ k : Nat, (List.replicate k [c]).flatten = List.replicate k c
  | 0 => rfl
  | k + 1 => by rw [List.replicate_succ, List.flatten_cons, Z8j c k, List.replicate_succ]; rfl
theorem text_eq {a : Nat} (ha : okN a) : Z8f a = some (Zvc a) := by
  unfold Z8f; have hbl := Z2i ha; have hda := Znk a; rw [ZOa]; refine Z3a (fun s : Nat × List (List UInt8) => okN s.1 ∧ ZIa s.1 ++ s.2.reverse.flatten = ZIa a ∧ bl s.1 + s.2.length ≤ bl a) (fun s => bl s.1) (fun r : List (List UInt8) => r.reverse.flatten = ZIa a ∧ r.length ≤ bl a ∧ (a ≠ 0 → r ≠ [])) ⟨ha, by simp, by simp⟩ (ZHa (by simp only; omega)) ?_ ?_
  · rintro ⟨x, s⟩ ⟨hx, he, hl⟩; simp only at hx he hl ⊢; by_cases h0 : x = 0
    · right; subst h0; rw [ZQa, show decide ((0 : Int) < (([] : List Int).length : Int)) = false from rfl, ZG]; rw [Z8c, List.nil_append] at he; refine ⟨_, rfl, he, by omega, fun h1 h2 => ?_⟩; subst h2; exact h1 (ZNo.1 he.symm)
    · left; have hpos := List.length_pos_iff.2 ((Zuc (n := x) (B := 18446744073709551616) (by decide)).2 h0); have e1 : ZQd x (10000000000000000000 : Int) = some (x / 10000000000000000000, ((x % 10000000000000000000 : Nat) : Int)) := by
        unfold ZQd; rw [if_pos ⟨hx, by omega⟩]; rfl
      have e2 : Zof ((x % 10000000000000000000 : Nat) : Int) = some (ZIa (x % 10000000000000000000)) := by unfold Zof; rw [Int.toNat_natCast]
      rw [decide_eq_true (show (0 : Int) < ((Zi 18446744073709551616 x).length : Int) by omega), ZH, e1, Zg]; simp only; rw [e2, Zg]; have hr : (ZIa (x % 10000000000000000000)).length ≤ 19 := Zem (k := 19) (Nat.mod_lt _ (by decide)); have hb2 : bl (x / 10000000000000000000) + 1 ≤ bl x := by
        rw [Z1i h0]; exact Nat.add_le_add_right (ZFd (by omega)) 1
      have hsplit : ∃ p : List UInt8, ifb (decide ((0 : Int) < ((Zi 18446744073709551616 (x / 10000000000000000000)).length : Int))) (bnd (chk .i64 (19 - ((ZIa (x % 10000000000000000000)).length : Int))) fun y218 => bnd (Z1e [48] y218) fun y220 => bnd (ZPc (y220 ++ ZIa (x % 10000000000000000000))) fun y227 => some (y220 ++ ZIa (x % 10000000000000000000))) (some (ZIa (x % 10000000000000000000))) = some p ∧ ZIa (x / 10000000000000000000) ++ p = ZIa x := by
        by_cases hq : x / 10000000000000000000 = 0
        · refine ⟨_, by rw [hq, ZQa]; rfl, ?_⟩; rw [hq, Z8c, List.nil_append]; congr 1; omega
        · have hpos := List.length_pos_iff.2 ((Zuc (n := x / 10000000000000000000) (B := 18446744073709551616) (by decide)).2 hq); obtain ⟨k, hk⟩ : ∃ k, k = 19 - (ZIa (x % 10000000000000000000)).length := ⟨_, rfl⟩; have e3 : chk .i64 (19 - ((ZIa (x % 10000000000000000000)).length : Int)) = some (k : Int) := by rw [show (19 - ((ZIa (x % 10000000000000000000)).length : Int)) = (k : Int) by omega, Z5a (by omega)]
          have e4 : Z1e [48] (k : Int) = some (List.replicate k 48) := by
            unfold Z1e; rw [if_pos ⟨by omega, by simp; omega⟩, Int.toNat_natCast, Z8j]
          refine ⟨List.replicate k 48 ++ ZIa (x % 10000000000000000000), ?_, ?_⟩
          · rw [decide_eq_true (by omega), ZH, e3, Zg, e4, Zg, ZRf (by simp; omega), Zg]
          · have := ZLn hq 19 (x % 10000000000000000000) (Nat.mod_lt _ (by decide)); rw [show x / 10000000000000000000 * 10 ^ 19 + x % 10000000000000000000 = x by omega] at this; rw [this, hk]
      obtain ⟨p, ep, hp⟩ := hsplit; rw [ep, Zg, ZMe (by simp; omega), Zg]; refine ⟨_, rfl, ⟨ZVh (Nat.div_le_self _ _) hx, ?_, by simp; omega⟩, by simp only; omega⟩; simp only [List.reverse_append, List.reverse_cons, List.reverse_nil, List.nil_append, List.singleton_append, List.flatten_cons]; rw [← List.append_assoc, hp, he]
  · rintro r ⟨hr, hl, hne⟩; rw [Zg]; by_cases h0 : a = 0
    · subst h0; have : r = [] := by
        have := hl; simp [bl] at this; exact this
      subst this; rfl
    · have hne := hne h0; have hpos : 0 < r.length := List.length_pos_iff.2 hne; have e1 : ((r.length : Int) == 0) = false := beq_false_of_ne (by omega); rw [e1, ZG, Zja (by omega) (by omega), Zg, ZOa]; unfold Zvc; rw [if_neg h0]; refine Z3a (fun s : List UInt8 × Int => ∃ k : Nat, s.2 = (k : Int) - 1 ∧ k ≤ r.length ∧ s.1 = (r.drop k).reverse.flatten) (fun s => (s.2 + 1).toNat) (fun t : List UInt8 => t = ZIa a) ⟨r.length, rfl, by omega, by simp⟩ (ZHa (by simp only; omega)) ?_ ?_
      · rintro ⟨s, i⟩ ⟨k, hi, hk, hs⟩; simp only at hi hs ⊢; subst hi hs; by_cases hk0 : k = 0
        · right; subst hk0; rw [show decide ((0 : Int) ≤ ((0 : Nat) : Int) - 1) = false from rfl, ZG]; exact ⟨_, rfl, by rw [List.drop_zero]; exact hr⟩
        · left; obtain ⟨j, rfl⟩ : ∃ j, k = j + 1 := ⟨k - 1, by omega⟩; have ej : ((j + 1 : Nat) : Int) - 1 = (j : Int) := by omega
          have hj : j < r.length := by omega
          have hnew : (r.drop (j + 1)).reverse.flatten ++ r[j] = (r.drop j).reverse.flatten := by
            rw [List.drop_eq_getElem_cons hj, List.reverse_cons, List.flatten_append]; simp
          have hlen : ((r.drop j).reverse.flatten).length ≤ r.reverse.flatten.length := ZOn r j; rw [hr] at hlen; have e2 : Ztg ((r.drop (j + 1)).reverse.flatten ++ r[j]) = some () := by unfold Ztg; rw [if_pos (by rw [hnew]; omega)]
          rw [ej, decide_eq_true (show (0 : Int) ≤ (j : Int) by omega), ZH, Z9 hj, Zg, e2, Zg, Zja (by omega) (by omega), Zg]; exact ⟨_, rfl, ⟨j, rfl, by omega, hnew⟩, by simp⟩
      · rintro t rfl; rw [Zg, ZRf (by omega), Zg]
theorem Zfo {n : Nat} {z : List UInt8} (h : ZVe n = some z) : Z8f n = some z := by
  unfold ZVe at h; split at h
  · rename_i hh; rw [text_eq hh, h]
  · cases h
theorem ZJl {n : Nat} (h : bl n ≤ 4398046511104) : (Zvc n).length ≤ 4398046511104 := by
  unfold Zvc; split
  · simp
  · have := Znk n; omega
theorem ZNm {x : Rat} {z : List UInt8} (h : Zre x = some z) : Zui x = some z := by
  unfold Zre at h; split at h
  · rename_i hh; obtain ⟨h1, h2⟩ := hh
    cases h
    unfold Zui ZVe; have l1 := ZJl (n := x.num.natAbs) (by omega); have l2 := ZJl (n := x.den) (by omega); rw [if_pos (ZVa (by omega)), Zg]; have e1 : ifb (decide (x.num < 0)) (bnd (ZPc ([45] ++ Zvc x.num.natAbs)) fun y80 => some (([45] : List UInt8) ++ Zvc x.num.natAbs)) (some (Zvc x.num.natAbs)) = some ((if x.num < 0 then [45] else []) ++ Zvc x.num.natAbs) := by
      by_cases h : x.num < 0
      · rw [decide_eq_true h, ZH, ZRf (by simp; omega), Zg, if_pos h]
      · rw [decide_eq_false h, ZG, if_neg h]; rfl
    rw [e1, Zg]; unfold txtQ; have l3 : ((if x.num < 0 then [45] else []) ++ Zvc x.num.natAbs : List UInt8).length ≤ 4398046511105 := by
      rw [List.length_append]; split <;> simp <;> omega
    generalize ((if x.num < 0 then [45] else []) ++ Zvc x.num.natAbs : List UInt8) = s at *; by_cases hd : x.den = 1
    · rw [hd]; rw [show ZWa 1 = 0 from rfl, ZQa]; simp [ifb, bnd]
    · have e2 : ZWa x.den = x.den := by unfold ZWa; rw [if_neg hd]
      have hpos := List.length_pos_iff.2 ((Zuc (n := x.den) (B := 18446744073709551616) (by decide)).2 x.den_nz); rw [e2, decide_eq_true (by omega), ZH, if_pos (ZVa (by omega)), Zg, ZRf (by simp; omega), Zg, ZRf (by simp; omega), Zg, Zg, if_neg hd]; rfl
  · cases h
noncomputable def ZUg (x : Rat) : Option (Bool) :=
 bnd (ZDb x) fun a =>
 some (decide (a ≤ (0 : Int)))
noncomputable def ZXg (l : (List Rat)) (g : Unit) : Option (Int) :=
 bnd (bnd (ZW (fun s : Int => match s with
 | a =>
 (ifb (decide (a < (l.length : Int)))
 (bnd (idx l a) fun b =>
 bnd (ZUg b) fun c =>
 ifb (c)
 (some (.inr ((.inl a))))
 (bnd (chk .i64 (a + ((1 : Int)))) fun d =>
 some (.inl d)))
 (some (.inr ((.inr (()))))))) Z3 ((0 : Int)))
 (fun (p : (Int) ⊕ (Unit)) => match p with
 | .inl e =>
 (some ((.inr e)))
 | .inr (()) =>
 (some ((.inl (()))))))
 (fun (p : (Unit) ⊕ (Int)) => match p with
 | .inl (()) =>
 (some ((-1 : Int)))
 | .inr f =>
 (some f))
noncomputable def Zrg (l : (List Rat)) (g : Unit) : Option (Bool) :=
 bnd (ZXg l (())) fun a =>
 some (decide ((0 : Int) ≤ a))
noncomputable def Z9c (l : (List Rat)) : Option (Bool) :=
 bnd (Zrg l (())) fun a =>
 some (!(a))
noncomputable def ZLj (t : (Rat × (List Rat))) : Option (Int) :=
 bnd (Z9c ([t.1])) fun b =>
 ifb (!(b))
 (some ((1 : Int)))
 (bnd (ifb (((t.2.length : Int)) == ((0 : Int)))
 (some true)
 (some (decide ((16 : Int) ≤ (t.2.length : Int)))))
 (fun (c : Bool) =>
 (ifb (c)
 (some ((4 : Int)))
 (bnd (bnd (ZW (fun s : Int => match s with
 | a =>
 (ifb (decide (a < (t.2.length : Int)))
 (bnd (idx t.2 a) fun d =>
 bnd (ifb (decide ((0 : Int) < a))
 (bnd (chk .i64 (a - ((1 : Int)))) fun e =>
 bnd (idx t.2 e) fun f =>
 bnd (ZNc d f) fun g =>
 some (decide (g ≤ (0 : Int))))
 (some false))
 (fun (h : Bool) =>
 (ifb (h)
 (some (.inr ((.inl ((7 : Int))))))
 (bnd (chk .i64 (a + ((1 : Int)))) fun i =>
 some (.inl i)))))
 (some (.inr ((.inr (()))))))) Z3 ((0 : Int)))
 (fun (p : (Int) ⊕ (Unit)) => match p with
 | .inl j =>
 (some ((.inr j)))
 | .inr (()) =>
 (some ((.inl (()))))))
 (fun (p : (Unit) ⊕ (Int)) => match p with
 | .inl (()) =>
 (some ((0 : Int)))
 | .inr k =>
 (some k))))))
noncomputable def Zrj (y : Rat) (r : Rat) : Option (Bool) :=
 bnd (ZNc y r) fun a =>
 some (decide ((0 : Int) ≤ a))
noncomputable def Zqj (l : (List Rat)) (g : Rat) : Option (Int) :=
 bnd (bnd (ZW (fun s : Int => match s with
 | a =>
 (ifb (decide (a < (l.length : Int)))
 (bnd (idx l a) fun b =>
 bnd (Zrj b g) fun c =>
 ifb (c)
 (some (.inr ((.inl a))))
 (bnd (chk .i64 (a + ((1 : Int)))) fun d =>
 some (.inl d)))
 (some (.inr ((.inr (()))))))) Z3 ((0 : Int)))
 (fun (p : (Int) ⊕ (Unit)) => match p with
 | .inl e =>
 (some ((.inr e)))
 | .inr (()) =>
 (some ((.inl (()))))))
 (fun (p : (Unit) ⊕ (Int)) => match p with
 | .inl (()) =>
 (some ((-1 : Int)))
 | .inr f =>
 (some f))
noncomputable def ZJi (t : (Rat × (List Rat))) (x : Rat) : Option (Int) :=
 bnd (ZTh x t.1) fun b =>
 bnd (Zqj t.2 b.1) fun a =>
 ifb (decide (a < (0 : Int)))
 (some ((t.2.length : Int)))
 (some a)
noncomputable def Z4i (t : (Rat × (List Rat))) (x : Rat) : Option (Int × Int) :=
 bnd (ZLj ((t.1, t.2))) fun a =>
 ifb (a != ((0 : Int)))
 (some (((0 : Int), a)))
 (bnd (ZJi ((t.1, t.2)) x) fun b =>
 some ((b, (0 : Int))))
noncomputable def ZEj (d : ((Int × Int) × (Int × Int) × (Int × Int))) : Option ((Rat × Rat × Rat) × (Rat × Rat × Rat)) :=
 bnd (ZQb ((d.1.1, d.1.2))) fun a =>
 bnd (ZQb ((d.2.1.1, d.2.1.2))) fun b =>
 bnd (ZQb ((d.2.2.1, d.2.2.2))) fun c =>
 bnd (Zed ((d.1.1, d.1.2))) fun e =>
 bnd (Zed ((d.2.1.1, d.2.1.2))) fun f =>
 bnd (Zed ((d.2.2.1, d.2.2.2))) fun g =>
 some (((a, b, c), (e, f, g)))
noncomputable def Zig (x : Rat) (y : Rat) : Option (Rat) :=
 bnd (Z3d x y) fun a =>
 some a.1
noncomputable def Zbd (n : Int) : Option (Rat) :=
 bnd (Zfd n) fun a =>
 some a
noncomputable def Zxj (d : (Rat × Rat × Rat)) : Option (Bool) :=
 bnd (Z9c ([d.1, d.2.1, d.2.2])) fun a =>
 some a
noncomputable def ZOi (d : (Rat × Rat × Rat)) (x : Rat) (y : Rat) : Option (Rat × Int) :=
 bnd (Zxj ((d.1, d.2.1, d.2.2))) fun a =>
 ifb (!(a))
 (some (((0 : Rat), (1 : Int))))
 (bnd (ZBc x y) fun b =>
 bnd (Zbd ((1 : Int))) fun c =>
 bnd (Zig d.2.1 d.1) fun e =>
 bnd (Z9b c e) fun f =>
 bnd (ZIc b f) fun g =>
 some ((g, (0 : Int))))
noncomputable def Z0g (i : Int) (k : Int) : Option (Rat) :=
 ifb (i == k)
 (bnd (Zbd ((1 : Int))) fun a =>
 some a)
 (some ((0 : Rat)))
noncomputable def ZNi (t : (List (List Int))) (n : Int) (g : Unit) : Option (Rat × Rat) :=
 bnd (bnd (mk 8 ((t.length : Int)) ((t.length : Int))) fun an =>
 bnd (mk 8 ((t.length : Int)) ((t.length : Int))) fun ao =>
 some (((List.replicate ((t.length : Int)).toNat ((0 : Int))), (List.replicate ((t.length : Int)).toNat ((0 : Int))))))
 (fun (p : (List Int) × (List Int)) => match p with
 | (u, v) =>
 (bnd (bnd (ZW (fun s : (List Int) × (List Int) × Int => match s with
 | (h, i, a) =>
 (ifb (decide (a < (t.length : Int)))
 (bnd (idx t a) fun j =>
 bnd (bnd (ZW (fun s : (List Int) × (List Int) × Int => match s with
 | (e, f, b) =>
 (ifb (decide (b < (j.length : Int)))
 (bnd (idx j b) fun k =>
 bnd (idx e a) fun w =>
 bnd (chk .i64 (w + k)) fun x =>
 bnd (idx e a) fun ap =>
 bnd (idx f b) fun y =>
 bnd (chk .i64 (y + k)) fun z =>
 bnd (idx f b) fun aq =>
 bnd (chk .i64 (b + ((1 : Int)))) fun A =>
 some (.inl (((e.set (a).toNat x), (f.set (b).toNat z), A))))
 (some (.inr ((e, f)))))) Z3 ((h, i, (0 : Int))))
 (fun (p : (List Int) × (List Int)) => match p with
 | (B, C) =>
 (some ((B, C)))))
 (fun (p : (List Int) × (List Int)) => match p with
 | (D, E) =>
 (bnd (chk .i64 (a + ((1 : Int)))) fun F =>
 some (.inl ((D, E, F))))))
 (some (.inr ((h, i)))))) Z3 ((u, v, (0 : Int))))
 (fun (p : (List Int) × (List Int)) => match p with
 | (G, H) =>
 (some ((G, H)))))
 (fun (p : (List Int) × (List Int)) => match p with
 | (I, J) =>
 (bnd (bnd (ZW (fun s : Rat × Rat × Int => match s with
 | (l, m, c) =>
 (ifb (decide (c < (t.length : Int)))
 (bnd (idx t c) fun o =>
 bnd (bnd (ZW (fun s : Rat × Rat × Int => match s with
 | (q, r, d) =>
 (ifb (decide (d < (o.length : Int)))
 (bnd (idx o d) fun K =>
 bnd (Z0g c d) fun L =>
 bnd (Zbd K) fun M =>
 bnd (ZIc L M) fun N =>
 bnd (Z9b q N) fun O =>
 bnd (Z0g c d) fun P =>
 bnd (idx I c) fun Q =>
 bnd (Zbd Q) fun R =>
 bnd (ZIc P R) fun S =>
 bnd (idx J d) fun T =>
 bnd (Zbd T) fun U =>
 bnd (ZIc S U) fun V =>
 bnd (Z9b r V) fun W =>
 bnd (chk .i64 (d + ((1 : Int)))) fun X =>
 some (.inl ((O, W, X))))
 (some (.inr ((q, r)))))) Z3 ((l, m, (0 : Int))))
 (fun (p : Rat × Rat) => match p with
 | (Y, Z) =>
 (some ((Y, Z)))))
 (fun (p : Rat × Rat) => match p with
 | (aa, ab) =>
 (bnd (chk .i64 (c + ((1 : Int)))) fun ac =>
 some (.inl ((aa, ab, ac))))))
 (some (.inr ((l, m)))))) Z3 (((0 : Rat), (0 : Rat), (0 : Int))))
 (fun (p : Rat × Rat) => match p with
 | (ad, ae) =>
 (some ((ad, ae)))))
 (fun (p : Rat × Rat) => match p with
 | (af, ag) =>
 (bnd (Zbd n) fun ah =>
 bnd (Zig af ah) fun ai =>
 bnd (Zbd n) fun aj =>
 bnd (Zbd n) fun ak =>
 bnd (ZIc aj ak) fun al =>
 bnd (Zig ag al) fun am =>
 some ((ai, am))))))))
noncomputable def ZPj (r : (List Int)) (t : (List (List Int))) : Option (Bool) :=
 some (((r.length : Int)) != ((t.length : Int)))
noncomputable def Znj (l : (List (List Int))) (g : (List (List Int))) : Option (Int) :=
 bnd (bnd (ZW (fun s : Int => match s with
 | a =>
 (ifb (decide (a < (l.length : Int)))
 (bnd (idx l a) fun b =>
 bnd (ZPj b g) fun c =>
 ifb (c)
 (some (.inr ((.inl a))))
 (bnd (chk .i64 (a + ((1 : Int)))) fun d =>
 some (.inl d)))
 (some (.inr ((.inr (()))))))) Z3 ((0 : Int)))
 (fun (p : (Int) ⊕ (Unit)) => match p with
 | .inl e =>
 (some ((.inr e)))
 | .inr (()) =>
 (some ((.inl (()))))))
 (fun (p : (Unit) ⊕ (Int)) => match p with
 | .inl (()) =>
 (some ((-1 : Int)))
 | .inr f =>
 (some f))
noncomputable def ZRj (l : (List (List Int))) (g : (List (List Int))) : Option (Bool) :=
 bnd (Znj l g) fun a =>
 some (decide ((0 : Int) ≤ a))
noncomputable def ZBj (t : (List (List Int))) : Option (Int × Int) :=
 bnd (ifb (((t.length : Int)) == ((0 : Int)))
 (some ((t, true)))
 (ifb (decide ((8 : Int) < (t.length : Int)))
 (some ((t, true)))
 (bnd (ZRj t t) fun i =>
 some ((t, i)))))
 (fun (p : (List (List Int)) × Bool) => match p with
 | (d, j) =>
 (ifb (j)
 (some (((0 : Int), (4 : Int))))
 (bnd (bnd (ZW (fun s : Int × Int => match s with
 | (e, a) =>
 (ifb (decide (a < (d.length : Int)))
 (bnd (idx d a) fun f =>
 bnd (bnd (ZW (fun s : Int × Int => match s with
 | (g, b) =>
 (ifb (decide (b < (f.length : Int)))
 (bnd (idx f b) fun c =>
 bnd (ifb (decide (c < (0 : Int)))
 (some true)
 (some (decide ((1000000 : Int) < c))))
 (fun (k : Bool) =>
 (ifb (k)
 (some (.inr ((.inl (((0 : Int), (1 : Int)))))))
 (bnd (chk .i64 (g + c)) fun l =>
 bnd (chk .i64 (b + ((1 : Int)))) fun m =>
 some (.inl ((l, m)))))))
 (some (.inr ((.inr g)))))) Z3 ((e, (0 : Int))))
 (fun (p : (Int × Int) ⊕ (Int)) => match p with
 | .inl ((n, o)) =>
 (some ((.inr ((n, o)))))
 | .inr q =>
 (some ((.inl q)))))
 (fun (p : (Int) ⊕ (Int × Int)) => match p with
 | .inl r =>
 (bnd (chk .i64 (a + ((1 : Int)))) fun u =>
 some (.inl ((r, u))))
 | .inr ((v, w)) =>
 (some (.inr ((.inl ((v, w))))))))
 (some (.inr ((.inr e)))))) Z3 (((0 : Int), (0 : Int))))
 (fun (p : (Int × Int) ⊕ (Int)) => match p with
 | .inl ((x, y)) =>
 (some ((.inr ((x, y)))))
 | .inr z =>
 (some ((.inl z)))))
 (fun (p : (Int) ⊕ (Int × Int)) => match p with
 | .inl h =>
 (ifb (h == ((0 : Int)))
 (some (((0 : Int), (3 : Int))))
 (some ((h, (0 : Int)))))
 | .inr ((A, B)) =>
 (some ((A, B)))))))
noncomputable def Zlj (t : (List (List Int))) (g : Unit) : Option (Rat × Int) :=
 bnd (ZBj t) fun a =>
 ifb (a.2 != ((0 : Int)))
 (some (((0 : Rat), a.2)))
 (bnd (ZNi t a.1 (())) fun b =>
 bnd (bnd (ZBc b.1 b.2) fun d =>
 bnd (Zbd ((1 : Int))) fun e =>
 bnd (ZBc e b.2) fun f =>
 bnd (Z3d d f) fun c =>
 some ((c.2, c.1)))
 (fun (p : Int × Rat) => match p with
 | (h, i) =>
 (ifb (h != ((0 : Int)))
 (some (((0 : Rat), (5 : Int))))
 (some ((i, (0 : Int)))))))
noncomputable def ZLi (t : (List (List Int))) : Option (Rat × Int) :=
 bnd (Zlj t (())) fun a =>
 some ((a.1, a.2))
noncomputable def Zfj (l : (List (Int × Int))) : Option ((List Rat) × (List Rat)) :=
 bnd (bnd (ZW (fun s : (List Rat) × (List Rat) × Int => match s with
 | (b, c, d) =>
 (ifb (decide (d < (l.length : Int)))
 (bnd (idx l d) fun a =>
 bnd (ZQb ((a.1, a.2))) fun e =>
 bnd (Z0a 56 (b ++ [e])) fun m =>
 bnd (Zed ((a.1, a.2))) fun f =>
 bnd (Z0a 56 (c ++ [f])) fun n =>
 bnd (chk .i64 (d + ((1 : Int)))) fun g =>
 some (.inl (((b ++ [e]), (c ++ [f]), g))))
 (some (.inr ((b, c)))))) Z3 ((([] : (List Rat)), ([] : (List Rat)), (0 : Int))))
 (fun (p : (List Rat) × (List Rat)) => match p with
 | (h, i) =>
 (some ((h, i)))))
 (fun (p : (List Rat) × (List Rat)) => match p with
 | (j, k) =>
 (some ((j, k))))
noncomputable def ZVi (step : (Int × Int)) (limits : (List (Int × Int))) : Option ((Rat × (List Rat)) × (Rat × (List Rat))) :=
 bnd (Zfj limits) fun a =>
 bnd (ZQb ((step.1, step.2))) fun b =>
 bnd (Zed ((step.1, step.2))) fun c =>
 some (((b, a.1), (c, a.2)))
noncomputable def ZRd  : Option (Bool) :=
 bnd (ZEj ((((2 : Int), (0 : Int)), ((1 : Int), (2 : Int)), ((4000 : Int), (0 : Int))))) fun a =>
 bnd (bnd (Zfd ((48 : Int))) fun f =>
 bnd (Zfd ((8 : Int))) fun g =>
 bnd (ZOi ((a.1.1, a.1.2.1, a.1.2.2)) f g) fun b =>
 some ((b.1, b.2)))
 (fun (p : Rat × Int) => match p with
 | (h, i) =>
 (bnd (ZLi ([[(20 : Int), (5 : Int)], [(10 : Int), (15 : Int)]])) fun c =>
 bnd (ZVi (((1 : Int), (10 : Int))) ([((1 : Int), (0 : Int)), ((2 : Int), (0 : Int))])) fun d =>
 bnd (ZQb (((206 : Int), (100 : Int)))) fun j =>
 bnd (Z4i ((d.1.1, d.1.2)) j) fun e =>
 bnd (ifb (i == ((0 : Int)))
 (ifb (c.2 == ((0 : Int)))
 (ifb (e.2 == ((0 : Int)))
 (bnd (Zre h) fun k =>
 ifb (k == (([53, 48] : List UInt8)))
 (bnd (Zre c.1) fun l =>
 ifb (l == (([50, 47, 53] : List UInt8)))
 (some (e.1 == ((2 : Int))))
 (some false))
 (some false))
 (some false))
 (some false))
 (some false))
 (fun (m : Bool) =>
 (some m))))
theorem num_pos {q : Rat} : 0 < q.num ↔ 0 < q := by
  have h1 := Rat.num_nonneg (q := q); have h2 := Rat.num_eq_zero (q := q); constructor
  · intro h; have h3 : 0 ≤ q := h1.1 (by omega); have h4 : q ≠ 0 := fun e => by have := h2.2 e; omega
    grind
  · intro h; have h3 : 0 ≤ q.num := h1.2 (by grind); have h4 : q.num ≠ 0 := fun e => by have := h2.1 e; grind
    omega
theorem num_neg {q : Rat} : q.num < 0 ↔ q < 0 := by
  have h1 := Rat.num_nonneg (q := q); constructor
  · intro h; rcases Rat.le_total (a := 0) (b := q) with h3 | h3
    · have := h1.2 h3; omega
    · have h4 : q ≠ 0 := fun e => by subst e; simp at h
      grind
  · intro h; rcases Int.lt_or_le q.num 0 with h3 | h3
    · exact h3
    · have := h1.1 h3; grind
theorem Zfl {q : Rat} : (0 < q.num.sign) ↔ 0 < q := by
  rw [← num_pos]; rcases Int.lt_trichotomy q.num 0 with h | h | h
  · rw [Int.sign_eq_neg_one_of_neg h]; omega
  · rw [h]; simp
  · rw [Int.sign_eq_one_of_pos h]; omega
theorem Zvi {q : Rat} : (q.num.sign < 0) ↔ q < 0 := by
  rw [← num_neg]; rcases Int.lt_trichotomy q.num 0 with h | h | h
  · rw [Int.sign_eq_neg_one_of_neg h]; omega
  · rw [h]; simp
  · rw [Int.sign_eq_one_of_pos h]; omega
theorem ZRi {q : Rat} : (q.num.sign ≤ 0) ↔ q ≤ 0 := by
  have h := Zfl (q := q); constructor
  · intro h1; rcases Rat.le_total (a := q) (b := 0) with h2 | h2
    · exact h2
    · by_cases h3 : q = 0
      · grind
      · have := h.2 (by grind); omega
  · intro h1; rcases Int.lt_or_le 0 q.num.sign with h2 | h2
    · have := h.1 h2; grind
    · exact h2
theorem Z9n {q : Rat} : (0 ≤ q.num.sign) ↔ 0 ≤ q := by
  have h := Zvi (q := q); constructor
  · intro h1; rcases Rat.le_total (a := 0) (b := q) with h2 | h2
    · exact h2
    · by_cases h3 : q = 0
      · grind
      · have := h.2 (by grind); omega
  · intro h1; rcases Int.lt_or_le q.num.sign 0 with h2 | h2
    · have := h.1 h2; grind
    · exact h2
def sz (k : Nat) (x : Rat) : Prop := bl x.num.natAbs ≤ k ∧ bl x.den ≤ k
theorem sz.mono {k m : Nat} {x : Rat} (h : sz k x) (hk : k ≤ m) : sz m x := ⟨by have := h.1; omega, by have := h.2; omega⟩
theorem sz.ok {k : Nat} {x : Rat} (h : sz k x) (hk : k ≤ 1099511627776) : okQ x := ⟨by have := h.1; omega, by have := h.2; omega⟩
theorem ZYd {k m : Nat} {x y : Rat} (h : sz k x) (h' : sz m y) : sz (k + m + 1) (x + y) := by
  have := Z3l x y; obtain ⟨a, b⟩ := h; obtain ⟨c, d⟩ := h'; exact ⟨by omega, by omega⟩
theorem ZSk {k m : Nat} {x y : Rat} (h : sz k x) (h' : sz m y) : sz (k + m + 1) (x - y) := by
  have := ZVj x y; obtain ⟨a, b⟩ := h; obtain ⟨c, d⟩ := h'; exact ⟨by omega, by omega⟩
theorem ZIi {k m : Nat} {x y : Rat} (h : sz k x) (h' : sz m y) : sz (k + m) (x * y) := by
  have := Zxm x y; obtain ⟨a, b⟩ := h; obtain ⟨c, d⟩ := h'; exact ⟨by omega, by omega⟩
theorem ZNh {n : Int} (h : -9223372036854775808 ≤ n ∧ n ≤ 9223372036854775807) : sz 64 (n : Rat) := by
  have h2 := Zyj n; have h3 : bl n.natAbs ≤ 64 := Z6b (show n.natAbs < 2 ^ 64 by omega); exact ⟨by omega, by omega⟩
def i64 (r : Int × Int) : Prop := (-9223372036854775808 ≤ r.1 ∧ r.1 ≤ 9223372036854775807) ∧ (-9223372036854775808 ≤ r.2 ∧ r.2 ≤ 9223372036854775807)
theorem Zbh {r : Int × Int} (h : i64 r) : sz 64 (Z1a r) := by
  unfold Z1a; by_cases h0 : r.2 = 0
  · rw [if_pos h0]; exact ZNh h.1
  · rw [if_neg h0, Zwi]; obtain ⟨⟨a, b⟩, c, d⟩ := h; rcases Zpi (if r.2 < 0 then -r.1 else r.1) r.2.natAbs with ⟨h1, h2⟩ | h1
    · have h3 : bl (if r.2 < 0 then -r.1 else r.1).natAbs ≤ 64 := Z6b (show _ < 2 ^ 64 by split <;> omega); have h4 : bl r.2.natAbs ≤ 64 := Z6b (show _ < 2 ^ 64 by omega); exact ⟨by omega, by omega⟩
    · omega
theorem ZQi {k m : Nat} {x y : Rat} (h : sz k x) (h' : sz m y) (hk : k + m ≤ 1000000000) : Z9b x y = some (x + y) := by unfold Z9b; rw [if_pos ⟨h.ok (by omega), h'.ok (by omega)⟩]
theorem qsub_ok {k m : Nat} {x y : Rat} (h : sz k x) (h' : sz m y) (hk : k + m ≤ 1000000000) : ZBc x y = some (x - y) := by unfold ZBc; rw [if_pos ⟨h.ok (by omega), h'.ok (by omega)⟩]
theorem Zhj {k m : Nat} {x y : Rat} (h : sz k x) (h' : sz m y) (hk : k + m ≤ 1000000000) : ZNc x y = some (x - y).num.sign := by unfold ZNc; rw [if_pos ⟨h.ok (by omega), h'.ok (by omega)⟩]
def decG : Nat → Nat → List UInt8
  | 0, _ => []
  | k + 1, n => if n = 0 then [] else decG k (n / 10) ++ [UInt8.ofNat (48 + n % 10)]
theorem Zoj : ∀ (k n : Nat), n ≤ k → decG k n = ZIa n
  | 0, n, h => by
    have : n = 0 := by omega
    subst this; rw [Z8c]; rfl
  | k + 1, n, h => by
    by_cases h0 : n = 0
    · subst h0; rw [Z8c]; rfl
    · rw [ZAe h0, decG, if_neg h0, Zoj k (n / 10) (by omega)]
def txtG (x : Rat) : List UInt8 := (if x.num < 0 then [45] else []) ++ (if x.num.natAbs = 0 then [48] else decG x.num.natAbs x.num.natAbs) ++ (if x.den = 1 then [] else 47 :: (if x.den = 0 then [48] else decG x.den x.den))
theorem txtG_eq : txtG = txtQ := by
  funext x
  unfold txtG txtQ Zvc; rw [Zoj _ _ (Nat.le_refl _), Zoj _ _ (Nat.le_refl _)]
def ZMl (x : Rat) : Option (List UInt8) := if okQ x then some (txtG x) else none
theorem ZJm : Zre = ZMl := by
  funext x
  unfold Zre ZMl; rw [txtG_eq]
set_option maxRecDepth 100000 in
theorem Zjp : ZRd = some true := by
  unfold ZRd; rw [ZJm]; decide +kernel
theorem Zhb {α β : Type} {x : Option α} {y : α} {f : α → Option β} {z : Option β} (h : x = some y) (h2 : f y = z) : bnd x f = z := by subst h; rw [Zg]; exact h2
theorem Zhe {S R : Type} {body : S → Option (S ⊕ R)} {s : S} {r : R} (st : Nat → S) (n : Nat) (h0 : st 0 = s) (hn : n < 2 ^ 64) (h : ∀ k, k < n → body (st k) = some (.inl (st (k + 1)))) (he : body (st n) = some (.inr r)) : ZW body Z3 s = some r := by
  have key : ∀ m f k, k + m = n → m < f → ZW body f (st k) = some r := by
    intro m
    induction m with
    | zero =>
      intro f k hk hf; obtain ⟨f, rfl⟩ : ∃ g, f = g + 1 := ⟨f - 1, by omega⟩; obtain rfl : k = n := by omega
      unfold ZW; rw [he, Zg]
    | succ m ih =>
      intro f k hk hf; obtain ⟨f, rfl⟩ : ∃ g, f = g + 1 := ⟨f - 1, by omega⟩; unfold ZW; rw [h k (by omega), Zg]; exact ih f (k + 1) (by omega) (by omega)
  rw [← h0]; exact key n Z3 0 (by omega) (ZHa (by omega))
theorem ZUj {α : Type} {p : α → Bool} {l : List α} (h : l.any p = true) : ∃ m, ∃ hm : m < l.length, p l[m] = true ∧ ∀ j, (h : j < l.length) → j < m → p l[j] = false := by
  have hm : l.findIdx p < l.length := List.findIdx_lt_length.2 (List.any_eq_true.1 h); exact ⟨l.findIdx p, hm, List.findIdx_getElem, fun j hj hjm => by
    have := List.not_of_lt_findIdx hjm
    simpa using this⟩
theorem ZBi {α : Type} {p : α → Bool} {l : List α} (h : l.any p = false) : ∀ j, (hj : j < l.length) → p l[j] = false := fun j hj => by
  rw [List.any_eq_false] at h
  simpa using h l[j] (List.getElem_mem hj)
noncomputable def Zth (x : Rat) : Option (Bool) :=
 bnd (ZDb x) fun a =>
 some (decide (a < (0 : Int)))
noncomputable def Z9h (l : (List Rat)) (g : Unit) : Option (Int) :=
 bnd (bnd (ZW (fun s : Int => match s with
 | a =>
 (ifb (decide (a < (l.length : Int)))
 (bnd (idx l a) fun b =>
 bnd (Zth b) fun c =>
 ifb (c)
 (some (.inr ((.inl a))))
 (bnd (chk .i64 (a + ((1 : Int)))) fun d =>
 some (.inl d)))
 (some (.inr ((.inr (()))))))) Z3 ((0 : Int)))
 (fun (p : (Int) ⊕ (Unit)) => match p with
 | .inl e =>
 (some ((.inr e)))
 | .inr (()) =>
 (some ((.inl (()))))))
 (fun (p : (Unit) ⊕ (Int)) => match p with
 | .inl (()) =>
 (some ((-1 : Int)))
 | .inr f =>
 (some f))
noncomputable def Zgg (l : (List Rat)) (g : Unit) : Option (Bool) :=
 bnd (Z9h l (())) fun a =>
 some (decide ((0 : Int) ≤ a))
noncomputable def ZTd (l : (List Rat)) : Option (Bool) :=
 bnd (Zgg l (())) fun a =>
 some a
theorem Z8o (l : List Rat) (hl : l.length ≤ 4611686018427387904) : Zrg l () = some (l.any fun x => decide (x.num.sign ≤ 0)) := by
  unfold Zrg ZXg ZUg ZDb; rw [ZOa, ZOa]; refine Z3a (fun s : Int => ∃ k : Nat, s = (k : Int) ∧ k ≤ l.length ∧ (l.take k).any (fun x => decide (x.num.sign ≤ 0)) = false) (fun s => l.length - s.toNat)
      (fun r : Int ⊕ Unit => (∃ k : Nat, r = .inl (k : Int) ∧ l.any (fun x => decide (x.num.sign ≤ 0)) = true) ∨ r = .inr () ∧ l.any (fun x => decide (x.num.sign ≤ 0)) = false) ⟨0, rfl, by omega, rfl⟩ (ZHa (by simp; omega)) ?_ ?_
  · rintro s ⟨k, rfl, hk, ha⟩; simp only; by_cases h : k < l.length
    · rw [decide_eq_true (by omega), ZH, Z9 h, Zg, Zg, Zg]; by_cases h2 : l[k].num.sign ≤ 0
      · right; rw [decide_eq_true h2, ZH]; exact ⟨_, rfl, .inl ⟨k, rfl, List.any_eq_true.2 ⟨l[k], List.getElem_mem h, decide_eq_true h2⟩⟩⟩
      · left; rw [decide_eq_false h2, ZG, Zja (by omega) (by omega), Zg]; refine ⟨_, rfl, ⟨k + 1, by simp, by omega, ?_⟩, by simp; omega⟩; rw [List.take_succ_eq_append_getElem h, List.any_append, ha]; simp only [List.any_cons, List.any_nil, Bool.or_false, Bool.false_or]; exact decide_eq_false h2
    · right; rw [decide_eq_false (by omega), ZG]; rw [List.take_of_length_le (by omega)] at ha; exact ⟨_, rfl, .inr ⟨rfl, ha⟩⟩
  · rintro r (⟨k, rfl, h⟩ | ⟨rfl, h⟩)
    · rw [h]; simp only [Zg]; exact congrArg some (decide_eq_true (by omega))
    · rw [h]; rfl
theorem ZFm (l : List Rat) (hl : l.length ≤ 4611686018427387904) : Zgg l () = some (l.any fun x => decide (x.num.sign < 0)) := by
  unfold Zgg Z9h Zth ZDb; rw [ZOa, ZOa]; refine Z3a (fun s : Int => ∃ k : Nat, s = (k : Int) ∧ k ≤ l.length ∧ (l.take k).any (fun x => decide (x.num.sign < 0)) = false) (fun s => l.length - s.toNat)
      (fun r : Int ⊕ Unit => (∃ k : Nat, r = .inl (k : Int) ∧ l.any (fun x => decide (x.num.sign < 0)) = true) ∨ r = .inr () ∧ l.any (fun x => decide (x.num.sign < 0)) = false) ⟨0, rfl, by omega, rfl⟩ (ZHa (by simp; omega)) ?_ ?_
  · rintro s ⟨k, rfl, hk, ha⟩; simp only; by_cases h : k < l.length
    · rw [decide_eq_true (by omega), ZH, Z9 h, Zg, Zg, Zg]; by_cases h2 : l[k].num.sign < 0
      · right; rw [decide_eq_true h2, ZH]; exact ⟨_, rfl, .inl ⟨k, rfl, List.any_eq_true.2 ⟨l[k], List.getElem_mem h, decide_eq_true h2⟩⟩⟩
      · left; rw [decide_eq_false h2, ZG, Zja (by omega) (by omega), Zg]; refine ⟨_, rfl, ⟨k + 1, by simp, by omega, ?_⟩, by simp; omega⟩; rw [List.take_succ_eq_append_getElem h, List.any_append, ha]; simp only [List.any_cons, List.any_nil, Bool.or_false, Bool.false_or]; exact decide_eq_false h2
    · right; rw [decide_eq_false (by omega), ZG]; rw [List.take_of_length_le (by omega)] at ha; exact ⟨_, rfl, .inr ⟨rfl, ha⟩⟩
  · rintro r (⟨k, rfl, h⟩ | ⟨rfl, h⟩)
    · rw [h]; simp only [Zg]; exact congrArg some (decide_eq_true (by omega))
    · rw [h]; rfl
theorem ZJk (l : List Rat) (hl : l.length ≤ 4611686018427387904) : Z9c l = some (l.all fun x => decide (0 < x)) := by
  unfold Z9c; rw [Z8o l hl, Zg, List.not_any_eq_all_not]; congr 2
  funext x
  rw [Bool.eq_iff_iff]; simp only [Bool.not_eq_true', decide_eq_false_iff_not, decide_eq_true_iff, ZRi]; grind
theorem Z3j (l : List Rat) (hl : l.length ≤ 4611686018427387904) : ZTd l = some (l.any fun x => decide (x < 0)) := by
  unfold ZTd; rw [ZFm l hl, Zg]; congr 2
  funext x
  exact decide_eq_decide.2 Zvi
def ent (t : List (List Int)) (i k : Nat) : Int := (t.getD i []).getD k 0
def upd (l : List Int) (i : Nat) (x : Int) : List Int := l.set i (l.getD i 0 + x)
theorem ZBd {α : Type} {l : List α} {i : Nat} {d : α} (h : i < l.length) : l.getD i d = l[i] := by rw [List.getD_eq_getElem?_getD, List.getElem?_eq_getElem h]; rfl
def rcF (t : List (List Int)) (i k : Nat) (p : List Int × List Int) : List Int × List Int := (upd p.1 i (ent t i k), upd p.2 k (ent t i k))
def RC (n : Nat) (B : Int) (p : List Int × List Int) : Prop := p.1.length = n ∧ p.2.length = n ∧ (∀ x ∈ p.1, 0 ≤ x ∧ x ≤ B) ∧ (∀ x ∈ p.2, 0 ≤ x ∧ x ≤ B)
theorem RC.at1 {n : Nat} {B : Int} {p : List Int × List Int} (h : RC n B p) {i : Nat} (hi : i < n) : ∃ hh : i < p.1.length, 0 ≤ p.1[i] ∧ p.1[i] ≤ B ∧ p.1.getD i 0 = p.1[i] := by
  have h1 : i < p.1.length := by rw [h.1]; exact hi
  exact ⟨h1, (h.2.2.1 _ (List.getElem_mem h1)).1, (h.2.2.1 _ (List.getElem_mem h1)).2, ZBd h1⟩
theorem RC.at2 {n : Nat} {B : Int} {p : List Int × List Int} (h : RC n B p) {i : Nat} (hi : i < n) : ∃ hh : i < p.2.length, 0 ≤ p.2[i] ∧ p.2[i] ≤ B ∧ p.2.getD i 0 = p.2[i] := by
  have h1 : i < p.2.length := by rw [h.2.1]; exact hi
  exact ⟨h1, (h.2.2.2 _ (List.getElem_mem h1)).1, (h.2.2.2 _ (List.getElem_mem h1)).2, ZBd h1⟩
theorem ZVk {l : List Int} {i : Nat} {x B : Int} (hx : 0 ≤ x ∧ x ≤ 1000000) (hi : i < l.length) (h : ∀ y ∈ l, 0 ≤ y ∧ y ≤ B) : ∀ y ∈ upd l i x, 0 ≤ y ∧ y ≤ B + 1000000 := by
  intro y hy; unfold upd at hy; have h2 := h _ (List.getElem_mem hi); rcases List.mem_or_eq_of_mem_set hy with h1 | h1
  · have := h y h1; omega
  · rw [ZBd hi] at h1; omega
structure Good (t : List (List Int)) : Prop where
  n0 : 0 < t.length
  n8 : t.length ≤ 8
  sq : ∀ i, (h : i < t.length) → t[i].length = t.length
  ok : ∀ i k, i < t.length → k < t.length → 0 ≤ ent t i k ∧ ent t i k ≤ 1000000
theorem RC.step {t : List (List Int)} (g : Good t) {B : Int} {p : List Int × List Int} {i k : Nat} (hi : i < t.length) (hk : k < t.length) (h : RC t.length B p) : RC t.length (B + 1000000) (rcF t i k p) :=
  ⟨by simp [rcF, upd, h.1], by simp [rcF, upd, h.2.1], ZVk (g.ok i k hi hk) (by rw [h.1]; exact hi) h.2.2.1, ZVk (g.ok i k hi hk) (by rw [h.2.1]; exact hk) h.2.2.2⟩
theorem RC.mono {n : Nat} {B C : Int} {p : List Int × List Int} (h : RC n B p) (hB : B ≤ C) : RC n C p :=
  ⟨h.1, h.2.1, fun x hx => by have := h.2.2.1 x hx; omega, fun x hx => by have := h.2.2.2 x hx; omega⟩
def pqF (t : List (List Int)) (w : Nat → Nat → Rat) (p : List Int × List Int) (i k : Nat) (s : Rat × Rat) : Rat × Rat :=
  (s.1 + w i k * ((ent t i k : Int) : Rat), s.2 + w i k * ((p.1.getD i 0 : Int) : Rat) * ((p.2.getD k 0 : Int) : Rat))
def SZ (k : Nat) (s : Rat × Rat) : Prop := sz k s.1 ∧ sz k s.2
theorem SZ.mono {k m : Nat} {s : Rat × Rat} (h : SZ k s) (hk : k ≤ m) : SZ m s := ⟨h.1.mono hk, h.2.mono hk⟩
theorem ZXf : sz 1 (0 : Rat) := by constructor <;> decide
section
variable {t : List (List Int)} {w : Nat → Nat → Rat} {p : List Int × List Int}
theorem SZ.step (g : Good t) (hw : ∀ i k, i < t.length → k < t.length → sz 200 (w i k)) (hp : RC t.length 64000000 p) {i k c : Nat} {s : Rat × Rat} (hi : i < t.length) (hk : k < t.length) (h : SZ c s) : SZ (c + 400) (pqF t w p i k s) := by
  have e := g.ok i k hi hk; obtain ⟨_, a1, a2, a3⟩ := hp.at1 hi; obtain ⟨_, b1, b2, b3⟩ := hp.at2 hk; refine ⟨(ZYd h.1 (ZIi (hw i k hi hk) (ZNh (n := ent t i k) (by omega)))).mono (by omega), (ZYd h.2 (ZIi (ZIi (hw i k hi hk) (ZNh (n := p.1.getD i 0) (by omega))) (ZNh (n := p.2.getD k 0) (by omega)))).mono (by omega)⟩
end
set_option maxRecDepth 100000
set_option maxRecDepth 100000
noncomputable def ZWf (log : (List (Rat × Rat))) : Option (Int) :=
 ifb (decide ((256 : Int) < (log.length : Int)))
 (some ((4 : Int)))
 (bnd (bnd (ZW (fun s : Int => match s with
 | a =>
 (ifb (decide (a < (log.length : Int)))
 (bnd (idx log a) fun b =>
 bnd (bnd (ZTd ([b.1])) fun c =>
 ifb (c)
 (some true)
 (bnd (Z9c ([b.2])) fun d =>
 some (!(d))))
 (fun (e : Bool) =>
 (ifb (e)
 (some (.inr ((.inl ((1 : Int))))))
 (bnd (chk .i64 (a + ((1 : Int)))) fun f =>
 some (.inl f)))))
 (some (.inr ((.inr (()))))))) Z3 ((0 : Int)))
 (fun (p : (Int) ⊕ (Unit)) => match p with
 | .inl g =>
 (some ((.inr g)))
 | .inr (()) =>
 (some ((.inl (()))))))
 (fun (p : (Unit) ⊕ (Int)) => match p with
 | .inl (()) =>
 (some ((0 : Int)))
 | .inr h =>
 (some h)))
noncomputable def ZCg (plan : (List (Rat × Rat))) (rule : (Rat × Rat)) : Option (Int) :=
 bnd (ifb (((plan.length : Int)) == ((0 : Int)))
 (some true)
 (some (decide ((256 : Int) < (plan.length : Int)))))
 (fun (c : Bool) =>
 (ifb (c)
 (some ((4 : Int)))
 (bnd (bnd (ZW (fun s : Int => match s with
 | a =>
 (ifb (decide (a < (plan.length : Int)))
 (bnd (idx plan a) fun b =>
 bnd (Z9c ([b.1, b.2])) fun d =>
 ifb (!(d))
 (some (.inr ((.inl ((1 : Int))))))
 (bnd (chk .i64 (a + ((1 : Int)))) fun e =>
 some (.inl e)))
 (some (.inr ((.inr (()))))))) Z3 ((0 : Int)))
 (fun (p : (Int) ⊕ (Unit)) => match p with
 | .inl f =>
 (some ((.inr f)))
 | .inr (()) =>
 (some ((.inl (()))))))
 (fun (p : (Unit) ⊕ (Int)) => match p with
 | .inl (()) =>
 (bnd (ZTd ([rule.1, rule.2])) fun g =>
 ifb (g)
 (some ((1 : Int)))
 (some ((0 : Int))))
 | .inr h =>
 (some h)))))
noncomputable def Zee (plan : (List (Rat × Rat))) (rule : (Rat × Rat)) (log : (List (Rat × Rat))) : Option ((Int × Int) × Int) :=
 bnd (ZCg plan ((rule.1, rule.2))) fun g =>
 ifb (g != ((0 : Int)))
 (some ((((0 : Int), (0 : Int)), g)))
 (bnd (ZWf log) fun h =>
 ifb (h != ((0 : Int)))
 (some ((((0 : Int), (0 : Int)), h)))
 (bnd (bnd (ZW (fun s : Rat × Rat × Rat × Int × Int => match s with
 | (m, i, n, a, e) =>
 (ifb (decide (e < (log.length : Int)))
 (bnd (bnd (idx log e) fun b =>
 bnd (Zce b.1) fun o =>
 ifb (o)
 (bnd (Z9b i b.2) fun j =>
 bnd (Z9b n b.2) fun k =>
 bnd (bnd (ZNc j rule.2) fun q =>
 ifb (decide ((0 : Int) < q))
 (some true)
 (bnd (ZNc k rule.1) fun r =>
 some (decide ((0 : Int) < r))))
 (fun (t : Bool) =>
 (ifb (t)
 (some ((.inl ((a, (3 : Int))))))
 (some ((.inr (((0 : Rat), j, k, a))))))))
 (bnd (idx plan a) fun u =>
 bnd (Zlf b.1 u.1) fun v =>
 ifb (!(v))
 (some ((.inl ((a, (4 : Int))))))
 (bnd (Z9b m b.2) fun w =>
 bnd (bnd (ZW (fun s : Rat × Int => match s with
 | (f, d) =>
 (bnd (idx plan d) fun x =>
 bnd (ZNc f x.2) fun y =>
 ifb (decide ((0 : Int) ≤ y))
 (bnd (idx plan d) fun z =>
 bnd (ZBc f z.2) fun l =>
 bnd (chk .i64 (d + ((1 : Int)))) fun c =>
 ifb (c == ((plan.length : Int)))
 (some (.inr ((.inl ((c, (1 : Int)))))))
 (bnd (bnd (Zce l) fun A =>
 ifb (!(A))
 (bnd (idx plan c) fun B =>
 bnd (Zlf B.1 b.1) fun C =>
 some (!(C)))
 (some false))
 (fun (D : Bool) =>
 (ifb (D)
 (some (.inr ((.inl ((c, (4 : Int)))))))
 (some (.inl ((l, c))))))))
 (some (.inr ((.inr ((f, d)))))))) Z3 ((w, a)))
 (fun (p : (Int × Int) ⊕ (Rat × Int)) => match p with
 | .inl ((E, F)) =>
 (some ((.inl ((E, F)))))
 | .inr ((G, H)) =>
 (some ((.inr ((G, H)))))))
 (fun (p : (Int × Int) ⊕ (Rat × Int)) => match p with
 | .inl ((I, J)) =>
 (some ((.inl ((I, J)))))
 | .inr ((K, L)) =>
 (some ((.inr ((K, i, (0 : Rat), L)))))))))
 (fun (p : (Int × Int) ⊕ (Rat × Rat × Rat × Int)) => match p with
 | .inl ((M, N)) =>
 (some (.inr ((M, N))))
 | .inr ((O, P, Q, R)) =>
 (bnd (chk .i64 (e + ((1 : Int)))) fun S =>
 some (.inl ((O, P, Q, R, S))))))
 (some (.inr ((a, (2 : Int))))))) Z3 (((0 : Rat), (0 : Rat), (0 : Rat), (0 : Int), (0 : Int))))
 (fun (p : Int × Int) => match p with
 | (T, U) =>
 (some ((T, U)))))
 (fun (p : Int × Int) => match p with
 | (V, W) =>
 (some (((V, W), (0 : Int)))))))
noncomputable def Zsf (l : (List ((Int × Int) × (Int × Int)))) : Option ((List (Rat × Rat)) × (List (Rat × Rat))) :=
 bnd (bnd (ZW (fun s : (List (Rat × Rat)) × (List (Rat × Rat)) × Int => match s with
 | (b, c, d) =>
 (ifb (decide (d < (l.length : Int)))
 (bnd (idx l d) fun a =>
 bnd (ZQb ((a.1.1, a.1.2))) fun e =>
 bnd (ZQb ((a.2.1, a.2.2))) fun f =>
 bnd (Z0a 112 (b ++ [(e, f)])) fun o =>
 bnd (Zed ((a.1.1, a.1.2))) fun g =>
 bnd (Zed ((a.2.1, a.2.2))) fun h =>
 bnd (Z0a 112 (c ++ [(g, h)])) fun q =>
 bnd (chk .i64 (d + ((1 : Int)))) fun i =>
 some (.inl (((b ++ [(e, f)]), (c ++ [(g, h)]), i))))
 (some (.inr ((b, c)))))) Z3 ((([] : (List (Rat × Rat))), ([] : (List (Rat × Rat))), (0 : Int))))
 (fun (p : (List (Rat × Rat)) × (List (Rat × Rat))) => match p with
 | (j, k) =>
 (some ((j, k)))))
 (fun (p : (List (Rat × Rat)) × (List (Rat × Rat))) => match p with
 | (m, n) =>
 (some ((m, n))))
noncomputable def Zkg (l : (List ((Int × Int) × (Int × Int)))) : Option ((List (Rat × Rat))) :=
 bnd (bnd (ZW (fun s : (List (Rat × Rat)) × Int => match s with
 | (b, c) =>
 (ifb (decide (c < (l.length : Int)))
 (bnd (idx l c) fun a =>
 bnd (ZQb ((a.1.1, a.1.2))) fun d =>
 bnd (ZQb ((a.2.1, a.2.2))) fun e =>
 bnd (Z0a 112 (b ++ [(d, e)])) fun i =>
 bnd (chk .i64 (c + ((1 : Int)))) fun f =>
 some (.inl (((b ++ [(d, e)]), f))))
 (some (.inr b)))) Z3 ((([] : (List (Rat × Rat))), (0 : Int))))
 (fun (g : (List (Rat × Rat))) =>
 (some g)))
 (fun (h : (List (Rat × Rat))) =>
 (some h))
noncomputable def Zqg (l : (List (Rat × Rat))) : Option (Int) :=
 ifb (decide ((256 : Int) < (l.length : Int)))
 (some ((4 : Int)))
 (bnd (bnd (ZW (fun s : Int => match s with
 | a =>
 (ifb (decide (a < (l.length : Int)))
 (bnd (bnd (idx l a) fun b =>
 bnd (ZQe b.1) fun c =>
 ifb (decide (c < (0 : Int)))
 (some true)
 (bnd (idx l a) fun d =>
 bnd (ZQe d.2) fun e =>
 some (decide (e ≤ (0 : Int)))))
 (fun (f : Bool) =>
 (ifb (f)
 (some (.inr ((.inl ((1 : Int))))))
 (bnd (chk .i64 (a + ((1 : Int)))) fun g =>
 some (.inl g)))))
 (some (.inr ((.inr (()))))))) Z3 ((0 : Int)))
 (fun (p : (Int) ⊕ (Unit)) => match p with
 | .inl h =>
 (some ((.inr h)))
 | .inr (()) =>
 (some ((.inl (()))))))
 (fun (p : (Unit) ⊕ (Int)) => match p with
 | .inl (()) =>
 (some ((0 : Int)))
 | .inr i =>
 (some i)))
set_option maxRecDepth 100000
def Z4b {E S R : Type} (f : E → S → R ⊕ S) (fin : S → R) : List E → S → R
  | [], s => fin s
  | e :: l, s => match f e s with
    | .inl r => r
    | .inr s' => Z4b f fin l s'
theorem ZHm {E S R σ : Type} {body : σ → Option (σ ⊕ R)} (l : List E) (enc : S → Nat → σ) (f : E → S → R ⊕ S) (fin : S → R) (I : Nat → S → Prop) {s0 : S} {s : σ} (hs : enc s0 0 = s) (h0 : I 0 s0) (hlen : l.length < 2 ^ 64)
    (h1 : ∀ i s r, (hi : i < l.length) → I i s → f l[i] s = .inl r → body (enc s i) = some (.inr r)) (h2 : ∀ i s s', (hi : i < l.length) → I i s → f l[i] s = .inr s' → body (enc s i) = some (.inl (enc s' (i + 1))) ∧ I (i + 1) s')
    (he : ∀ s, I l.length s → body (enc s l.length) = some (.inr (fin s))) : ZW body Z3 s = some (Z4b f fin l s0) := by
  have key : ∀ m F i s, i + m = l.length → m < F → I i s → ZW body F (enc s i) = some (Z4b f fin (l.drop i) s) := by
    intro m
    induction m with
    | zero =>
      intro F i s hi hF hI; obtain ⟨F, rfl⟩ : ∃ g, F = g + 1 := ⟨F - 1, by omega⟩; obtain rfl : i = l.length := by omega
      unfold ZW; rw [he s hI, Zg, List.drop_length]; rfl
    | succ m ih =>
      intro F i s hi hF hI; obtain ⟨F, rfl⟩ : ∃ g, F = g + 1 := ⟨F - 1, by omega⟩; have hi' : i < l.length := by omega
      unfold ZW; rw [List.drop_eq_getElem_cons hi']; unfold Z4b
      cases hf : f l[i] s with
      | inl r => rw [h1 i s r hi' hI hf, Zg]
      | inr s' =>
        have := h2 i s s' hi' hI hf; rw [this.1, Zg]; exact ih F (i + 1) s' (by omega) (by omega) this.2
  rw [← hs]; exact key l.length Z3 0 s0 (by omega) (ZHa (by omega)) h0
theorem Ztj {E R : Type} {body : Int → Option (Int ⊕ (R ⊕ Unit))} (l : List E) (p : E → Bool) (r : R) (hlen : l.length < 2 ^ 62) (h1 : ∀ i, (hi : i < l.length) → body (i : Int) = if p l[i] then some (.inr (.inl r)) else some (.inl ((i : Int) + 1)))
    (he : body (l.length : Int) = some (.inr (.inr ()))) : ZW body Z3 0 = some (if l.any p then .inl r else .inr ()) := by
  by_cases h : l.any p = true
  · obtain ⟨m, hm, g1, g2⟩ := ZUj h; rw [if_pos h]; refine Zhe (fun k => (k : Int)) m rfl (by omega) (fun k hk => ?_) ?_
    · rw [h1 k (by omega), g2 k (by omega) hk, if_neg (by simp)]; rfl
    · rw [h1 m hm, g1, if_pos rfl]
  · have h' : l.any p = false := by simpa using h
    have g := ZBi h'; rw [if_neg h]; refine Zhe (fun k => (k : Int)) l.length rfl (by omega) (fun k hk => ?_) ?_
    · rw [h1 k hk, g k hk, if_neg (by simp)]; rfl
    · exact he
abbrev RR2 := Rat × Rat
def Zkb (x : RR2) : Bool := !(decide (0 < x.1) && decide (0 < x.2))
def Zbb (x : RR2) : Bool := decide (x.1 < 0) || !decide (0 < x.2)
def Z2c (plan : List RR2) (rule : RR2) : Int := if plan.length = 0 ∨ 256 < plan.length then 4 else if plan.any Zkb then 1 else if decide (rule.1 < 0) || decide (rule.2 < 0) then 1 else 0
def Z8b (log : List RR2) : Int := if 256 < log.length then 4 else if log.any Zbb then 1 else 0
theorem above2 (x y : Rat) : Z9c [x, y] = some (decide (0 < x) && decide (0 < y)) := by rw [ZJk _ (by simp)]; simp
theorem above1' (x : Rat) : Z9c [x] = some (decide (0 < x)) := by rw [ZJk _ (by simp)]; simp
theorem below2 (x y : Rat) : ZTd [x, y] = some (decide (x < 0) || decide (y < 0)) := by rw [Z3j _ (by simp)]; simp
theorem below1' (x : Rat) : ZTd [x] = some (decide (x < 0)) := by rw [Z3j _ (by simp)]; simp
theorem ZZm (plan : List RR2) (rule : RR2) : ZCg plan rule = some (Z2c plan rule) := by
  unfold ZCg Z2c; by_cases h0 : plan.length = 0
  · rw [if_pos (.inl h0), h0]; rfl
  have e0 : ((plan.length : Int) == 0) = false := by
    rw [Bool.eq_false_iff]; intro h; rw [beq_iff_eq] at h; omega
  rw [e0, ZG, Zg]; by_cases h2 : 256 < plan.length
  · rw [if_pos (.inr h2), decide_eq_true (by omega), ZH]
  rw [if_neg (by omega), decide_eq_false (by omega), ZG]; have hloop : ∀ {body : Int → Option (Int ⊕ (Int ⊕ Unit))}, (∀ i, (hi : i < plan.length) → body (i : Int) = if Zkb plan[i] then some (.inr (.inl 1)) else some (.inl ((i : Int) + 1))) → body (plan.length : Int) = some (.inr (.inr ())) → ZW body Z3 0 = some (if plan.any Zkb then .inl 1 else .inr ()) := fun h1 he => Ztj plan Zkb 1 (by omega) h1 he; refine Zhb (y := if plan.any Zkb then .inr (1 : Int) else .inl ()) (Zhb (hloop (fun i hi => ?_) ?_) ?_) ?_
  · simp only; rw [decide_eq_true (by omega), ZH, Z9 hi, Zg, above2, Zg]; unfold Zkb; split
    · rename_i hb; rw [hb, ZH]
    · rename_i hb; have hb' : (!(decide (0 < plan[i].1) && decide (0 < plan[i].2))) = false := by simpa using hb
      rw [hb', ZG, Zja (by omega) (by omega), Zg]
  · simp only; rw [decide_eq_false (by omega), ZG]
  · generalize plan.any Zkb = b; cases b <;> rfl
  · cases hbs : plan.any Zkb
    · rw [if_neg (by simp), if_neg (by simp)]; simp only; rw [below2, Zg]; generalize (decide (rule.1 < 0) || decide (rule.2 < 0)) = b
      cases b <;> rfl
    · rfl
theorem ZTn (log : List RR2) : ZWf log = some (Z8b log) := by
  unfold ZWf Z8b; by_cases h2 : 256 < log.length
  · rw [if_pos h2, decide_eq_true (by omega), ZH]
  rw [if_neg h2, decide_eq_false (by omega), ZG]; have hloop : ∀ {body : Int → Option (Int ⊕ (Int ⊕ Unit))}, (∀ i, (hi : i < log.length) → body (i : Int) = if Zbb log[i] then some (.inr (.inl 1)) else some (.inl ((i : Int) + 1))) → body (log.length : Int) = some (.inr (.inr ())) → ZW body Z3 0 = some (if log.any Zbb then .inl 1 else .inr ()) := fun h1 he => Ztj log Zbb 1 (by omega) h1 he; refine Zhb (y := if log.any Zbb then .inr (1 : Int) else .inl ()) (Zhb (hloop (fun i hi => ?_) ?_) ?_) ?_
  · simp only; rw [decide_eq_true (by omega), ZH, Z9 hi, Zg]; have e : (bnd (ZTd ([log[i].1])) fun y109 => ifb (y109) (some true) (bnd (Z9c ([log[i].2])) fun y130 => some (!(y130)))) = some (Zbb log[i]) := by
      rw [below1', Zg, above1', Zg]; unfold Zbb
      cases decide (log[i].1 < 0) <;> rfl
    rw [e, Zg]; split
    · rename_i hb; rw [hb, ZH]
    · rename_i hb; have hb' : Zbb log[i] = false := by simpa using hb
      rw [hb', ZG, Zja (by omega) (by omega), Zg]
  · simp only; rw [decide_eq_false (by omega), ZG]
  · generalize log.any Zbb = b; cases b <;> rfl
  · generalize log.any Zbb = b; cases b <;> rfl
theorem ZPm (log : List RR2) : Zqg log = some (Z8b log) := by
  unfold Zqg Z8b ZQe; by_cases h2 : 256 < log.length
  · rw [if_pos h2, decide_eq_true (by omega), ZH]
  rw [if_neg h2, decide_eq_false (by omega), ZG]; have hloop : ∀ {body : Int → Option (Int ⊕ (Int ⊕ Unit))}, (∀ i, (hi : i < log.length) → body (i : Int) = if Zbb log[i] then some (.inr (.inl 1)) else some (.inl ((i : Int) + 1))) → body (log.length : Int) = some (.inr (.inr ())) → ZW body Z3 0 = some (if log.any Zbb then .inl 1 else .inr ()) := fun h1 he => Ztj log Zbb 1 (by omega) h1 he; refine Zhb (y := if log.any Zbb then .inr (1 : Int) else .inl ()) (Zhb (hloop (fun i hi => ?_) ?_) ?_) ?_
  · simp only; rw [decide_eq_true (by omega), ZH, Z9 hi]; simp only [Zg]; have s1 : decide (log[i].1.num.sign < 0) = decide (log[i].1 < 0) := decide_eq_decide.2 Zvi; have s2 : decide (log[i].2.num.sign ≤ 0) = !decide (0 < log[i].2) := by
      rw [Bool.eq_iff_iff]; simp only [decide_eq_true_iff, Bool.not_eq_true', decide_eq_false_iff_not, ZRi]; grind
    have e : ifb (decide (log[i].1.num.sign < 0)) (some true) (some (decide (log[i].2.num.sign ≤ 0))) = some (Zbb log[i]) := by
      rw [s1, s2]; unfold Zbb
      cases decide (log[i].1 < 0) <;> rfl
    rw [e, Zg]; split
    · rename_i hb; rw [hb, ZH]
    · rename_i hb; have hb' : Zbb log[i] = false := by simpa using hb
      rw [hb', ZG, Zja (by omega) (by omega), Zg]
  · simp only; rw [decide_eq_false (by omega), ZG]
  · generalize log.any Zbb = b; cases b <;> rfl
  · generalize log.any Zbb = b; cases b <;> rfl
def Zza (l : List ((Int × Int) × (Int × Int))) : List RR2 := l.map fun x => (Z1a x.1, Z1a x.2)
theorem ZFk (l : List ((Int × Int) × (Int × Int))) (hl : l.length ≤ 1000) : Zsf l = some (Zza l, Zza l) := by
  unfold Zsf ZQb Zed; refine Zhb (y := (Zza l, Zza l)) (Zhb (y := (Zza l, Zza l)) (Zhe (fun k => (Zza (l.take k), Zza (l.take k), (k : Int))) l.length rfl (by omega) (fun k hk => ?_) ?_) rfl) rfl
  · have e : Zza (l.take (k + 1)) = Zza (l.take k) ++ [(Z1a l[k].1, Z1a l[k].2)] := by
      unfold Zza; rw [List.take_succ_eq_append_getElem hk, List.map_append]; rfl
    have hlen : (Zza (l.take k)).length = k := by unfold Zza; simp; omega
    have hroom : ∀ x, Z0a 112 (Zza (l.take k) ++ [x]) = some () := fun x => by unfold Z0a; rw [if_pos (by simp; omega)]
    simp only; rw [decide_eq_true (by omega), ZH, Z9 hk, Zg, Zg, Zg, hroom, Zg, Zg, Zg, hroom, Zg, Zja (by omega) (by omega), Zg, e]; rfl
  · simp only; rw [decide_eq_false (by omega), ZG, List.take_length]
theorem Zkm (l : List ((Int × Int) × (Int × Int))) (hl : l.length ≤ 1000) : Zkg l = some (Zza l) := by
  unfold Zkg ZQb; refine Zhb (y := Zza l) (Zhb (y := Zza l) (Zhe (fun k => (Zza (l.take k), (k : Int))) l.length rfl (by omega) (fun k hk => ?_) ?_) rfl) rfl
  · have e : Zza (l.take (k + 1)) = Zza (l.take k) ++ [(Z1a l[k].1, Z1a l[k].2)] := by
      unfold Zza; rw [List.take_succ_eq_append_getElem hk, List.map_append]; rfl
    have hlen : (Zza (l.take k)).length = k := by unfold Zza; simp; omega
    have hroom : ∀ x, Z0a 112 (Zza (l.take k) ++ [x]) = some () := fun x => by unfold Z0a; rw [if_pos (by simp; omega)]
    simp only; rw [decide_eq_true (by omega), ZH, Z9 hk, Zg, Zg, Zg, hroom, Zg, Zja (by omega) (by omega), Zg, e]; rfl
  · simp only; rw [decide_eq_false (by omega), ZG, List.take_length]
set_option maxRecDepth 100000
abbrev pAt (plan : List RR2) (i : Nat) : RR2 := plan.getD i (0, 0)
def adv (plan : List RR2) (sp : Rat) : Nat → Rat → Nat → (Int × Int) ⊕ (Rat × Nat)
  | 0, d, due => .inr (d, due)
  | f + 1, d, due =>
    if (pAt plan due).2 ≤ d then
      if due + 1 = plan.length then .inl (((due + 1 : Nat) : Int), 1)
      else if d - (pAt plan due).2 ≠ 0 ∧ (pAt plan (due + 1)).1 ≠ sp then .inl (((due + 1 : Nat) : Int), 4)
      else adv plan sp f (d - (pAt plan due).2) (due + 1)
    else .inr (d, due)
structure JS where
  done : Rat
  all : Rat
  one : Rat
  due : Nat
def jst (plan : List RR2) (rule : RR2) (e : RR2) (s : JS) : (Int × Int) ⊕ JS :=
  if e.1 = 0 then
    if rule.2 < s.all + e.2 ∨ rule.1 < s.one + e.2 then .inl ((s.due : Int), 3) else .inr ⟨0, s.all + e.2, s.one + e.2, s.due⟩
  else if e.1 ≠ (pAt plan s.due).1 then .inl ((s.due : Int), 4)
  else match adv plan e.1 (plan.length - s.due) (s.done + e.2) s.due with
    | .inl r => .inl r
    | .inr (d, due) => .inr ⟨d, s.all, 0, due⟩
def jend (s : JS) : Int × Int := ((s.due : Int), 2)
def Z7c (plan : List RR2) (rule : RR2) (log : List RR2) : Int × Int := Z4b (jst plan rule) jend log ⟨0, 0, 0, 0⟩
def szL (l : List RR2) : Prop := ∀ i, (h : i < l.length) → sz 64 l[i].1 ∧ sz 64 l[i].2
theorem szL.at {l : List RR2} (h : szL l) {i : Nat} (hi : i < l.length) : sz 64 (pAt l i).1 ∧ sz 64 (pAt l i).2 := by unfold pAt; rw [ZBd hi]; exact h i hi
theorem ZTj {x y : Rat} : (0 ≤ (x - y).num.sign) ↔ y ≤ x := by rw [Z9n]; constructor <;> intro h <;> grind
theorem Z2g {x y : Rat} : (0 < (x - y).num.sign) ↔ y < x := by rw [Zfl]; constructor <;> intro h <;> grind
theorem Z8k {plan : List RR2} (hp : szL plan) (sp : Rat) : ∀ f d due c, due + f = plan.length → 0 < f → sz c d → match adv plan sp f d due with
    | .inl r => True
    | .inr (d', due') => due ≤ due' ∧ due' < plan.length ∧ sz (c + 65 * (due' - due)) d'
  | 0, _, _, _, _, h, _ => by omega
  | f + 1, d, due, c, hf, _, hd => by
    unfold adv
    by_cases h1 : (pAt plan due).2 ≤ d
    · rw [if_pos h1]
      by_cases h2 : due + 1 = plan.length
      · rw [if_pos h2]; trivial
      · rw [if_neg h2]
        by_cases h3 : d - (pAt plan due).2 ≠ 0 ∧ (pAt plan (due + 1)).1 ≠ sp
        · rw [if_pos h3]; trivial
        · rw [if_neg h3]
          have z := ZSk hd (hp.at (i := due) (by omega)).2
          have ih := Z8k hp sp f _ (due + 1) (c + 65) (by omega) (by omega) (z.mono (by omega))
          cases ha : adv plan sp f (d - (pAt plan due).2) (due + 1) with
          | inl r => trivial
          | inr q =>
            rw [ha] at ih
            obtain ⟨d', due'⟩ := q
            exact ⟨by omega, ih.2.1, ih.2.2.mono (by omega)⟩
    · rw [if_neg h1]
      exact ⟨Nat.le_refl _, by omega, hd.mono (by omega)⟩
theorem ZOk {plan : List RR2} (hp : szL plan) (hl : plan.length ≤ 256) {sp : Rat} {body : Rat × Int → Option ((Rat × Int) ⊕ ((Int × Int) ⊕ (Rat × Int)))}
    (hb : ∀ d (due : Nat), due < plan.length → sz 1000000 d → body (d, (due : Int)) =
      if (pAt plan due).2 ≤ d then
        if due + 1 = plan.length then some (.inr (.inl (((due + 1 : Nat) : Int), 1)))
        else if d - (pAt plan due).2 ≠ 0 ∧ (pAt plan (due + 1)).1 ≠ sp then some (.inr (.inl (((due + 1 : Nat) : Int), 4)))
        else some (.inl (d - (pAt plan due).2, ((due + 1 : Nat) : Int)))
      else some (.inr (.inr (d, (due : Int))))) :
    ∀ f F d due c, due + f = plan.length → 0 < f → f < F → sz c d → c + 65 * f ≤ 1000000 → ZW body F (d, (due : Int)) = some (match adv plan sp f d due with
      | .inl r => .inl r
      | .inr (d', due') => .inr (d', (due' : Int)))
  | 0, _, _, _, _, _, h, _, _, _ => by omega
  | f + 1, F, d, due, c, hf, _, hF, hd, hc => by
    obtain ⟨F, rfl⟩ : ∃ g, F = g + 1 := ⟨F - 1, by omega⟩
    unfold ZW adv
    rw [hb d due (by omega) (hd.mono (by omega))]
    by_cases h1 : (pAt plan due).2 ≤ d
    · rw [if_pos h1, if_pos h1]
      by_cases h2 : due + 1 = plan.length
      · rw [if_pos h2, if_pos h2, Zg]
      · rw [if_neg h2, if_neg h2]
        by_cases h3 : d - (pAt plan due).2 ≠ 0 ∧ (pAt plan (due + 1)).1 ≠ sp
        · rw [if_pos h3, if_pos h3, Zg]
        · rw [if_neg h3, if_neg h3, Zg]
          have z := ZSk hd (hp.at (i := due) (by omega)).2
          exact ZOk hp hl hb f F _ (due + 1) (c + 65) (by omega) (by omega) (by omega) (z.mono (by omega)) (by omega)
    · rw [if_neg h1, if_neg h1, Zg]
def JI (plan : List RR2) (i : Nat) (s : JS) : Prop := sz (65 * (i + s.due) + 1) s.done ∧ sz (65 * i + 1) s.all ∧ sz (65 * i + 1) s.one ∧ s.due < plan.length
theorem JI.step {plan : List RR2} (hp : szL plan) {rule : RR2} {i : Nat} {e : RR2} {s s' : JS} (he : sz 64 e.1 ∧ sz 64 e.2) (h : JI plan i s) (hs : jst plan rule e s = .inr s') : JI plan (i + 1) s' := by
  obtain ⟨h1, h2, h3, h4⟩ := h; unfold jst at hs; split at hs
  · split at hs
    · cases hs
    · cases hs
      exact ⟨ZXf.mono (by omega), (ZYd h2 he.2).mono (by omega), (ZYd h3 he.2).mono (by omega), h4⟩
  · split at hs
    · cases hs
    · have := Z8k hp e.1 (plan.length - s.due) (s.done + e.2) s.due _ (by omega) (by omega) (ZYd h1 he.2); split at hs
      · cases hs
      · rename_i d due ha
        cases hs
        rw [ha] at this; exact ⟨this.2.2.mono (by have := this.1; simp only; omega), h2.mono (by omega), ZXf.mono (by omega), this.2.1⟩
set_option maxRecDepth 100000
theorem ZBp {E S R σ : Type} {body : σ → Option (σ ⊕ R)} (l : List E) (enc : S → Nat → σ) (f : E → S → R ⊕ S) (fin : S → R) (I : Nat → S → Prop) {s0 : S} {s : σ} (hs : enc s0 0 = s) (h0 : I 0 s0) (hlen : l.length < 2 ^ 64)
    (h1 : ∀ i s, (hi : i < l.length) → I i s → body (enc s i) = some (match f l[i] s with | .inl r => .inr r | .inr s' => .inl (enc s' (i + 1)))) (h2 : ∀ i s s', (hi : i < l.length) → I i s → f l[i] s = .inr s' → I (i + 1) s')
    (he : ∀ s, I l.length s → body (enc s l.length) = some (.inr (fin s))) : ZW body Z3 s = some (Z4b f fin l s0) :=
  ZHm l enc f fin I hs h0 hlen (fun i s r hi hI hf => by rw [h1 i s hi hI, hf]) (fun i s s' hi hI hf => ⟨by rw [h1 i s hi hI, hf], h2 i s s' hi hI hf⟩) he
theorem Zln {plan : List RR2} {rule : RR2} {log : List RR2} (hp : szL plan) (hl : szL log) (hr : sz 64 rule.1 ∧ sz 64 rule.2) :
    Zee plan rule log = some (if Z2c plan rule ≠ 0 then ((0, 0), Z2c plan rule) else if Z8b log ≠ 0 then ((0, 0), Z8b log) else (Z7c plan rule log, 0)) := by
  unfold Zee; rw [ZZm, ZTn, Zg]; by_cases c1 : Z2c plan (rule.1, rule.2) = 0
  · have c1' : Z2c plan rule = 0 := c1; have b1 : (Z2c plan (rule.1, rule.2) != 0) = false := by simpa using c1
    rw [b1, ZG, Zg, if_neg (by rw [c1']; simp)]; by_cases c2 : Z8b log = 0
    · have b2 : (Z8b log != 0) = false := by simpa using c2
      have hP : 0 < plan.length ∧ plan.length ≤ 256 := by
        unfold Z2c at c1'; split at c1'
        · simp at c1'
        · omega
      have hL : log.length ≤ 256 := by
        unfold Z8b at c2; split at c2
        · simp at c2
        · omega
      rw [b2, ZG, if_neg (by rw [c2]; simp)]; refine Zhb (y := Z7c plan rule log) (Zhb (y := Z7c plan rule log) (ZBp log (fun s i => (s.done, s.all, s.one, (s.due : Int), (i : Int))) (jst plan rule) jend (JI plan) (s0 := ⟨0, 0, 0, 0⟩) rfl ⟨ZXf, ZXf, ZXf, hP.1⟩ (by omega) (fun i s hi hI => ?_) (fun i s s' hi hI hf => hI.step hp (hl i hi) hf) (fun s hI => ?_)) ?_) ?_
      · obtain ⟨z1, z2, z3, hd⟩ := hI; have ze := hl i hi; simp only; rw [decide_eq_true (by omega), ZH, Z9 hi, Zg]; refine Zhb (y := match jst plan rule log[i] s with | .inl r => .inl r | .inr s' => .inr (s'.done, s'.all, s'.one, (s'.due : Int))) ?_ ?_
        · have q0 : ∀ x : Rat, Zce x = some (decide (x = 0)) := fun _ => rfl; unfold jst; rw [q0, Zg]; by_cases e0 : log[i].1 = 0
          · have w2 := ZYd z2 ze.2; have w3 := ZYd z3 ze.2; rw [decide_eq_true e0, ZH, ZQi z2 ze.2 (by omega), Zg, ZQi z3 ze.2 (by omega), Zg, if_pos e0, Zhj w2 hr.2 (by omega), Zg, Zhj w3 hr.1 (by omega), Zg]; by_cases h1 : rule.2 < s.all + log[i].2
            · rw [decide_eq_true (Z2g.2 h1), ZH, Zg, ZH, if_pos (.inl h1)]
            · rw [decide_eq_false (fun h => h1 (Z2g.1 h)), ZG, Zg]; by_cases h2 : rule.1 < s.one + log[i].2
              · rw [decide_eq_true (Z2g.2 h2), ZH, if_pos (.inr h2)]
              · rw [decide_eq_false (fun h => h2 (Z2g.1 h)), ZG, if_neg (fun h => h.elim h1 h2)]
          · have ga := ZBd (l := plan) (d := ((0 : Rat), (0 : Rat))) hd; rw [decide_eq_false e0, ZG, if_neg e0, Z9 hd, Zg]; have qs : ∀ x y : Rat, Zlf x y = some (decide (x = y)) := fun _ _ => rfl; rw [qs, Zg, ← ga]; by_cases h1 : log[i].1 = (pAt plan s.due).1
            · have w1 := ZYd z1 ze.2; rw [decide_eq_true h1, Bool.not_true, ZG, if_neg (fun h => h h1), ZQi z1 ze.2 (by omega), Zg]; refine Zhb (y := match adv plan log[i].1 (plan.length - s.due) (s.done + log[i].2) s.due with | .inl r => .inl r | .inr (d', due') => .inr (d', (due' : Int))) (Zhb (ZOk hp hP.2 (sp := log[i].1) (fun d due hdue hzd => ?_) (plan.length - s.due) Z3 _ s.due _ (by omega) (by omega) (ZHa (by omega)) w1 (by omega)) ?_) ?_
              · have gb := ZBd (l := plan) (d := ((0 : Rat), (0 : Rat))) hdue; have zb := hp.at hdue; simp only; rw [Z9 hdue, Zg, ← gb, Zhj hzd zb.2 (by omega), Zg]; by_cases k1 : (pAt plan due).2 ≤ d
                · rw [decide_eq_true (ZTj.2 k1), ZH, if_pos k1, Zg, qsub_ok hzd zb.2 (by omega), Zg, Zja (by omega) (by omega), Zg]; by_cases k2 : due + 1 = plan.length
                  · have : ((due : Int) + 1 == (plan.length : Int)) = true := by rw [beq_iff_eq]; omega
                    rw [this, ZH, if_pos k2]; rfl
                  · have : ((due : Int) + 1 == (plan.length : Int)) = false := by rw [Bool.eq_false_iff]; intro h; rw [beq_iff_eq] at h; omega
                    rw [this, ZG, if_neg k2, q0, Zg]; have gc := ZBd (l := plan) (d := ((0 : Rat), (0 : Rat))) (i := due + 1) (by omega); rw [show (due : Int) + 1 = ((due + 1 : Nat) : Int) from rfl, Z9 (by omega), Zg, ← gc, qs, Zg]; by_cases k3 : d - (pAt plan due).2 = 0
                    · rw [decide_eq_true k3, Bool.not_true, ZG, Zg, ZG, if_neg (fun h => h.1 k3)]
                    · rw [decide_eq_false k3, Bool.not_false, ZH, Zg]; by_cases k4 : (pAt plan (due + 1)).1 = log[i].1
                      · rw [decide_eq_true k4, Bool.not_true, ZG, if_neg (fun h => h.2 k4)]
                      · rw [decide_eq_false k4, Bool.not_false, ZH, if_pos ⟨k3, k4⟩]
                · rw [decide_eq_false (fun h => k1 (ZTj.1 h)), ZG, if_neg k1]
              · cases adv plan log[i].1 (plan.length - s.due) (s.done + log[i].2) s.due with
                | inl r => rfl
                | inr q => rfl
              · cases adv plan log[i].1 (plan.length - s.due) (s.done + log[i].2) s.due with
                | inl r => rfl
                | inr q => rfl
            · rw [decide_eq_false h1, Bool.not_false, ZH, if_pos h1]
        · cases jst plan rule log[i] s with
          | inl r => rfl
          | inr s' =>
            simp only; rw [Zja (by omega) (by omega), Zg]; rfl
      · simp only; rw [decide_eq_false (by omega), ZG]; rfl
      · rfl
      · rfl
    · have b2 : (Z8b log != 0) = true := by simpa using c2
      rw [b2, ZH, if_pos c2]
  · have c1' : Z2c plan rule ≠ 0 := c1; have b1 : (Z2c plan (rule.1, rule.2) != 0) = true := by simpa using c1
    rw [b1, ZH, if_pos c1']
noncomputable def Z1g (stages : (List ((Int × Int) × (Int × Int)))) (log : (List ((Int × Int) × (Int × Int)))) (single : (Int × Int)) (all : (Int × Int)) : Option (Bool) :=
 bnd (ifb (decide ((stages.length : Int) < (1 : Int)))
 (some true)
 (ifb (decide ((40 : Int) < (stages.length : Int)))
 (some true)
 (some (decide ((100 : Int) < (log.length : Int))))))
 (fun (n : Bool) =>
 (ifb (n)
 (bnd (ZRd ) fun o =>
 some o)
 (bnd (Zsf stages) fun b =>
 bnd (bnd (ZW (fun s : (List (Rat × Rat)) × Int => match s with
 | (e, f) =>
 (ifb (decide (f < (b.1.length : Int)))
 (bnd (idx b.1 f) fun c =>
 bnd (bnd (ZDb c.1) fun q =>
 ifb (decide (q ≤ (0 : Int)))
 (some true)
 (bnd (ZDb c.2) fun r =>
 some (decide (r ≤ (0 : Int)))))
 (fun (t : Bool) =>
 (ifb (t)
 (bnd (ZRd ) fun u =>
 some (.inr ((.inl u))))
 (bnd (Z0a 112 (e ++ [(c.1, c.2)])) fun Y =>
 bnd (chk .i64 (f + ((1 : Int)))) fun v =>
 some (.inl (((e ++ [(c.1, c.2)]), v)))))))
 (some (.inr ((.inr e)))))) Z3 ((([] : (List (Rat × Rat))), (0 : Int))))
 (fun (p : (Bool) ⊕ ((List (Rat × Rat)))) => match p with
 | .inl w =>
 (some ((.inr w)))
 | .inr x =>
 (some ((.inl x)))))
 (fun (p : ((List (Rat × Rat))) ⊕ (Bool)) => match p with
 | .inl g =>
 (bnd (bnd (ZQb ((single.1, single.2))) fun y =>
 bnd (ZQb ((all.1, all.2))) fun z =>
 some ((y, z)))
 (fun (a : (Rat × Rat)) =>
 (bnd (bnd (ZDb a.1) fun A =>
 ifb (decide (A < (0 : Int)))
 (some true)
 (bnd (ZDb a.2) fun B =>
 some (decide (B < (0 : Int)))))
 (fun (C : Bool) =>
 (ifb (C)
 (bnd (ZRd ) fun D =>
 some D)
 (bnd (Zee b.1 ((a.1, a.2)) g) fun h =>
 bnd (ifb (h.2 != ((0 : Int)))
 (some true)
 (ifb (h.1.2 != ((1 : Int)))
 (some true)
 (some (h.1.1 != ((b.1.length : Int))))))
 (fun (E : Bool) =>
 (ifb (E)
 (some false)
 (bnd (bnd (ZW (fun s : Int => match s with
 | d =>
 (ifb (decide (d < (g.length : Int)))
 (bnd (bnd (Zgb g ((0 : Int)) d) fun F =>
 bnd (Zee b.1 ((a.1, a.2)) F) fun i =>
 some (((i.1.1, i.1.2), i.2)))
 (fun (p : (Int × Int) × Int) => match p with
 | (l, G) =>
 (bnd (ifb (G != ((0 : Int)))
 (some true)
 (ifb (l.2 != ((2 : Int)))
 (some true)
 (some (l.1 != d))))
 (fun (H : Bool) =>
 (ifb (H)
 (some (.inr ((.inl false))))
 (bnd (chk .i64 (d + ((1 : Int)))) fun I =>
 some (.inl I)))))))
 (some (.inr ((.inr (()))))))) Z3 ((0 : Int)))
 (fun (p : (Bool) ⊕ (Unit)) => match p with
 | .inl J =>
 (some ((.inr J)))
 | .inr (()) =>
 (some ((.inl (()))))))
 (fun (p : (Unit) ⊕ (Bool)) => match p with
 | .inl (()) =>
 (bnd (Zsf log) fun K =>
 bnd (Zqg K.2) fun L =>
 ifb (L != ((0 : Int)))
 (bnd (ZRd ) fun M =>
 some M)
 (bnd (bnd (ZW (fun s : Int × Int => match s with
 | (N, j) =>
 (ifb (decide (j ≤ (log.length : Int)))
 (bnd (bnd (Zgb log ((0 : Int)) j) fun O =>
 bnd (Zkg O) fun P =>
 bnd (Zee b.1 ((a.1, a.2)) P) fun k =>
 some (((k.1.1, k.1.2), k.2)))
 (fun (p : (Int × Int) × Int) => match p with
 | (m, Q) =>
 (bnd (ifb (Q != ((0 : Int)))
 (some true)
 (some (decide (m.1 < N))))
 (fun (R : Bool) =>
 (ifb (R)
 (some (.inr ((.inl false))))
 (bnd (chk .i64 (j + ((1 : Int)))) fun S =>
 some (.inl ((m.1, S)))))))))
 (some (.inr ((.inr (()))))))) Z3 (((0 : Int), (0 : Int))))
 (fun (p : (Bool) ⊕ (Unit)) => match p with
 | .inl T =>
 (some ((.inr T)))
 | .inr (()) =>
 (some ((.inl (()))))))
 (fun (p : (Unit) ⊕ (Bool)) => match p with
 | .inl (()) =>
 (bnd (ZRd ) fun U =>
 some U)
 | .inr V =>
 (some V))))
 | .inr W =>
 (some W)))))))))))
 | .inr X =>
 (some X)))))
set_option maxRecDepth 100000
def advLe (due : Nat) : (Int × Int) ⊕ (Rat × Nat) → Prop
  | .inl r => (due : Int) ≤ r.1
  | .inr (_, due') => due ≤ due'
def jLe (due : Nat) : (Int × Int) ⊕ JS → Prop
  | .inl r => (due : Int) ≤ r.1
  | .inr s' => due ≤ s'.due
theorem ZTk (plan : List RR2) (sp : Rat) : ∀ f d due, advLe due (adv plan sp f d due)
  | 0, _, _ => Nat.le_refl _
  | f + 1, d, due => by
    unfold adv
    by_cases h1 : (pAt plan due).2 ≤ d
    · rw [if_pos h1]
      by_cases h2 : due + 1 = plan.length
      · rw [if_pos h2]; show (due : Int) ≤ ((due + 1 : Nat) : Int); omega
      · rw [if_neg h2]
        by_cases h3 : d - (pAt plan due).2 ≠ 0 ∧ (pAt plan (due + 1)).1 ≠ sp
        · rw [if_pos h3]; show (due : Int) ≤ ((due + 1 : Nat) : Int); omega
        · rw [if_neg h3]
          have ih := ZTk plan sp f (d - (pAt plan due).2) (due + 1)
          cases ha : adv plan sp f (d - (pAt plan due).2) (due + 1) with
          | inl r => rw [ha] at ih; unfold advLe at *; simp only at ih ⊢; omega
          | inr q => rw [ha] at ih; obtain ⟨q1, q2⟩ := q; unfold advLe at *; simp only at ih ⊢; omega
    · rw [if_neg h1]; exact Nat.le_refl _
theorem ZJp (plan : List RR2) (rule e : RR2) (s : JS) : jLe s.due (jst plan rule e s) := by
  unfold jst; by_cases h1 : e.1 = 0
  · rw [if_pos h1]; by_cases h2 : rule.2 < s.all + e.2 ∨ rule.1 < s.one + e.2
    · rw [if_pos h2]; exact Int.le_refl _
    · rw [if_neg h2]; exact Nat.le_refl _
  · rw [if_neg h1]; by_cases h2 : e.1 ≠ (pAt plan s.due).1
    · rw [if_pos h2]; exact Int.le_refl _
    · rw [if_neg h2]; have ih := ZTk plan e.1 (plan.length - s.due) (s.done + e.2) s.due
      cases ha : adv plan e.1 (plan.length - s.due) (s.done + e.2) s.due with
      | inl r => rw [ha] at ih; exact ih
      | inr q => rw [ha] at ih; obtain ⟨q1, q2⟩ := q; exact ih
theorem ZCh {E S R : Type} {f : E → S → R ⊕ S} {fin : S → R} {e : E} {l : List E} {s : S} {r : R} (h : f e s = .inl r) : Z4b f fin (e :: l) s = r := by rw [Z4b, h]
theorem ZMh {E S R : Type} {f : E → S → R ⊕ S} {fin : S → R} {e : E} {l : List E} {s s' : S} (h : f e s = .inr s') : Z4b f fin (e :: l) s = Z4b f fin l s' := by rw [Z4b, h]
theorem Zam (plan : List RR2) (rule e : RR2) : ∀ (l : List RR2) (s : JS), (Z4b (jst plan rule) jend l s).1 ≤ (Z4b (jst plan rule) jend (l ++ [e]) s).1
  | [], s => by
    have := ZJp plan rule e s
    have e0 : (Z4b (jst plan rule) jend [] s).1 = (s.due : Int) := rfl
    rw [List.nil_append, e0]
    cases h : jst plan rule e s with
    | inl r => rw [h] at this; rw [ZCh h]; exact this
    | inr s' =>
      rw [h] at this; rw [ZMh h]
      have e1 : (Z4b (jst plan rule) jend [] s').1 = (s'.due : Int) := rfl
      unfold jLe at this; simp only at this
      rw [e1]; omega
  | x :: l, s => by
    rw [List.cons_append]
    cases h : jst plan rule x s with
    | inl r => rw [ZCh h, ZCh h]; exact Int.le_refl _
    | inr s' => rw [ZMh h, ZMh h]; exact Zam plan rule e l s'
theorem Z3k {plan : List RR2} {rule : RR2} (hp : plan.any Zkb = false) : ∀ k i, i + k ≤ plan.length → i < plan.length → Z4b (jst plan rule) jend ((plan.drop i).take k) ⟨0, 0, 0, i⟩ = if i + k = plan.length then ((plan.length : Int), 1) else (((i + k : Nat) : Int), 2)
  | 0, i, _, h => by
    rw [if_neg (by omega), List.take_zero]
    rfl
  | k + 1, i, hk, h => by
    have pos : ∀ j, (hj : j < plan.length) → 0 < plan[j].1 ∧ 0 < plan[j].2 := fun j hj => by
      have := ZBi hp j hj
      unfold Zkb at this
      simpa using this
    have g0 : pAt plan i = plan[i] := ZBd h
    obtain ⟨p1, p2⟩ := pos i h
    rw [List.drop_eq_getElem_cons h, List.take_succ_cons]
    obtain ⟨f, hf⟩ : ∃ f, plan.length - i = f + 1 := ⟨plan.length - i - 1, by omega⟩
    have hj : jst plan rule plan[i] ⟨0, 0, 0, i⟩ = if i + 1 = plan.length then .inl (((i + 1 : Nat) : Int), 1) else .inr ⟨0, 0, 0, i + 1⟩ := by
      unfold jst; simp only; rw [if_neg (by grind), g0, if_neg (fun h => h rfl), hf]; unfold adv; rw [g0, if_pos (by grind)]; by_cases hl : i + 1 = plan.length
      · rw [if_pos hl, if_pos hl]
      · have e0 : (0 : Rat) + plan[i].2 - plan[i].2 = 0 := by grind
        rw [if_neg hl, if_neg hl, e0, if_neg (fun h => h.1 rfl)]; obtain ⟨g, rfl⟩ : ∃ g, f = g + 1 := ⟨f - 1, by omega⟩; unfold adv; have g1 : pAt plan (i + 1) = plan[i + 1] := ZBd (by omega); have := (pos (i + 1) (by omega)).2; rw [g1, if_neg (by grind)]
    by_cases hl : i + 1 = plan.length
    · rw [if_pos hl] at hj; rw [ZCh hj, if_pos (by omega), hl]
    · rw [if_neg hl] at hj; have ih := Z3k (rule := rule) hp k (i + 1) (by omega) (by omega); rw [ZMh hj, ih]; by_cases h2 : i + (k + 1) = plan.length
      · rw [if_pos (by omega), if_pos h2]
      · rw [if_neg (by omega), if_neg h2, show i + 1 + k = i + (k + 1) by omega]
theorem Zsl {plan : List RR2} {rule : RR2} (hp : plan.any Zkb = false) (h0 : 0 < plan.length) {k : Nat} (hk : k ≤ plan.length) : Z7c plan rule (plan.take k) = if k = plan.length then ((plan.length : Int), 1) else ((k : Int), 2) := by
  have := Z3k (rule := rule) hp k 0 (by omega) h0; rw [List.drop_zero, Nat.zero_add] at this; exact this
theorem Z6l {l : List ((Int × Int) × (Int × Int))} (h : ∀ x ∈ l, i64 x.1 ∧ i64 x.2) : szL (Zza l) := fun i hi => by
  have hi' : i < l.length := by
    have : (Zza l).length = l.length := List.length_map ..; omega
  have e : (Zza l)[i] = (Z1a l[i].1, Z1a l[i].2) := List.getElem_map ..; rw [e]; have := h _ (List.getElem_mem hi'); exact ⟨Zbh this.1, Zbh this.2⟩
theorem szL.take {l : List RR2} (h : szL l) (k : Nat) : szL (l.take k) := fun i hi => by
  have hi' : i < l.length := by rw [List.length_take] at hi; omega
  rw [List.getElem_take]
  exact h i hi'
theorem Zzp {x : RR2} (h : Zkb x = false) : Zbb x = false := by
  unfold Zkb at h; unfold Zbb; simp at h ⊢; exact ⟨by grind, h.2⟩
theorem ZZl {α : Type} {p : α → Bool} {l : List α} (h : l.any p = false) (k : Nat) : (l.take k).any p = false := by
  rw [List.any_eq_false] at h ⊢; intro x hx; exact h x (List.mem_of_mem_take hx)
def prevD (D : Nat → Int) : Nat → Int
  | 0 => 0
  | j + 1 => D j
theorem Zjn (stages log : List ((Int × Int) × (Int × Int))) (single all : Int × Int) (hs : ∀ x ∈ stages, i64 x.1 ∧ i64 x.2) (hl : ∀ x ∈ log, i64 x.1 ∧ i64 x.2) (h1 : i64 single) (h2 : i64 all) : Z1g stages log single all = some true := by
  unfold Z1g; rw [Zjp]; by_cases n1 : stages.length < 1
  · rw [decide_eq_true (by omega), ZH, Zg, ZH, Zg]
  rw [decide_eq_false (by omega), ZG]; by_cases n2 : 40 < stages.length
  · rw [decide_eq_true (by omega), ZH, Zg, ZH, Zg]
  rw [decide_eq_false (by omega), ZG, Zg]; by_cases n3 : 100 < log.length
  · rw [decide_eq_true (by omega), ZH, Zg]
  rw [decide_eq_false (by omega), ZG, ZFk stages (by omega), Zg]; simp only; have hP := Z6l hs; have hQ := Z6l hl; have lP : (Zza stages).length = stages.length := List.length_map ..; have lQ : (Zza log).length = log.length := List.length_map ..; generalize hPd : Zza stages = P at *; have loop1 : ∀ {body : (List RR2) × Int → Option (((List RR2) × Int) ⊕ (Bool ⊕ List RR2))}, (∀ i, (hi : i < P.length) → body (P.take i, (i : Int)) = if Zkb P[i] then some (.inr (.inl true)) else some (.inl (P.take i ++ [P[i]], (i : Int) + 1))) → body (P, (P.length : Int)) = some (.inr (.inr P)) → ZW body Z3 ([], 0) = some (if P.any Zkb then .inl true else .inr P) := by
    intro body hb he; by_cases h : P.any Zkb = true
    · obtain ⟨m, hm, g1, g2⟩ := ZUj h; rw [if_pos h]; refine Zhe (fun k => (P.take k, (k : Int))) m rfl (by omega) (fun k hk => ?_) ?_
      · rw [hb k (by omega), g2 k (by omega) hk, if_neg (by simp), List.take_succ_eq_append_getElem (by omega)]; rfl
      · rw [hb m hm, g1, if_pos rfl]
    · have h' : P.any Zkb = false := by simpa using h
      have g := ZBi h'; rw [if_neg h]; refine Zhe (fun k => (P.take k, (k : Int))) P.length rfl (by omega) (fun k hk => ?_) ?_
      · rw [hb k hk, g k hk, if_neg (by simp), List.take_succ_eq_append_getElem hk]; rfl
      · rw [List.take_length, he]
  have room1 : ∀ k, k ≤ P.length → ∀ x, Z0a 112 (P.take k ++ [x]) = some () := fun k hk x => by unfold Z0a; rw [if_pos (by simp; omega)]
  have sg : ∀ x : RR2, (bnd (ZDb x.1) fun y786 => ifb (decide (y786 ≤ (0 : Int))) (some true) (bnd (ZDb x.2) fun y794 => some (decide (y794 ≤ (0 : Int))))) = some (Zkb x) := fun x => by
    have s1 : ∀ y : Rat, decide (y.num.sign ≤ 0) = !decide (0 < y) := fun y => by
      rw [Bool.eq_iff_iff]; simp only [decide_eq_true_iff, Bool.not_eq_true', decide_eq_false_iff_not, ZRi]; grind
    unfold ZDb Zkb; rw [Zg, Zg, s1, s1]
    cases decide (0 < x.1) <;> cases decide (0 < x.2) <;> rfl
  by_cases hb : P.any Zkb = true
  · refine Zhb (y := .inr true) (Zhb (loop1 (fun i hi => ?_) ?_) (by rw [if_pos hb])) rfl
    · simp only; rw [decide_eq_true (by omega), ZH, Z9 hi, Zg, sg, Zg]
      cases Zkb P[i]
      · rw [ZG, room1 i (by omega), Zg, Zja (by omega) (by omega), Zg, if_neg (by simp)]
      · rw [ZH, Zg, if_pos rfl]
    · simp only; rw [decide_eq_false (by omega), ZG]
  have hb' : P.any Zkb = false := by simpa using hb
  refine Zhb (y := .inl P) (Zhb (loop1 (fun i hi => ?_) ?_) (by rw [if_neg hb])) ?_
  · simp only; rw [decide_eq_true (by omega), ZH, Z9 hi, Zg, sg, Zg]
    cases Zkb P[i]
    · rw [ZG, room1 i (by omega), Zg, Zja (by omega) (by omega), Zg, if_neg (by simp)]
    · rw [ZH, Zg, if_pos rfl]
  · simp only; rw [decide_eq_false (by omega), ZG]
  unfold ZQb; simp only [Zg]; have hr : sz 64 (Z1a single) ∧ sz 64 (Z1a all) := ⟨Zbh h1, Zbh h2⟩; have er : ((Z1a (single.1, single.2), Z1a (all.1, all.2)) : RR2) = (Z1a single, Z1a all) := rfl; obtain ⟨rule, hrd⟩ : ∃ rule : RR2, rule = (Z1a single, Z1a all) := ⟨_, rfl⟩; have hr' : sz 64 rule.1 ∧ sz 64 rule.2 := by rw [hrd]; exact hr
  have sgr : ifb (decide ((Z1a (single.1, single.2)).num.sign < (0 : Int))) (some true) (some (decide ((Z1a (all.1, all.2)).num.sign < (0 : Int)))) = some (decide (rule.1 < 0) || decide (rule.2 < 0)) := by
    have s1 : ∀ y : Rat, decide (y.num.sign < 0) = decide (y < 0) := fun y => decide_eq_decide.2 Zvi; rw [hrd, s1, s1]; simp only
    cases decide (Z1a single < 0) <;> rfl
  have eqs : ZDb (Z1a (single.1, single.2)) = some (Z1a (single.1, single.2)).num.sign := rfl; have eqs2 : ZDb (Z1a (all.1, all.2)) = some (Z1a (all.1, all.2)).num.sign := rfl; rw [eqs, eqs2]; simp only [Zg]; rw [sgr, Zg]; by_cases hneg : (decide (rule.1 < 0) || decide (rule.2 < 0)) = true
  · rw [hneg, ZH]
  have hneg' : (decide (rule.1 < 0) || decide (rule.2 < 0)) = false := by simpa using hneg
  rw [hneg', ZG]; have cP : Z2c P rule = 0 := by
    unfold Z2c; rw [if_neg (by omega), if_neg hb, if_neg hneg]
  have judge : ∀ {l : List RR2}, szL l → l.length ≤ 256 → l.any Zbb = false → Zee P rule l = some (Z7c P rule l, 0) := fun {l} hl hn hb => by
    have cL : Z8b l = 0 := by unfold Z8b; rw [if_neg (by omega), if_neg (by rw [hb]; simp)]
    rw [Zln hP hl hr', cP, cL, if_neg (by simp), if_neg (by simp)]
  have bP : P.any Zbb = false := by
    rw [List.any_eq_false]; intro x hx; have := Zzp (by have := List.any_eq_false.1 hb' x hx; simpa using this); simp [this]
  rw [show ((Z1a (single.1, single.2), Z1a (all.1, all.2)) : RR2) = rule from hrd.symm]; have jP := judge hP (by omega) bP; have jF : Z7c P rule P = ((P.length : Int), 1) := by
    have := Zsl (rule := rule) hb' (by omega) (k := P.length) (Nat.le_refl _); rw [List.take_length, if_pos rfl] at this; exact this
  rw [jP, Zg, jF]; have c0 : ((0 : Int) != 0) = false := rfl; have c1 : ((1 : Int) != 1) = false := rfl; have c2 : ((P.length : Int) != (P.length : Int)) = false := bne_self_eq_false ..; simp only [c0, c1, c2, ZG, Zg]; refine Zhb (y := .inl ()) (Zhb (Zhe (r := .inr ()) (fun k => (k : Int)) P.length rfl (by omega) (fun k hk => ?_) ?_) rfl) ?_
  · have cut : Zgb P (0 : Int) (k : Int) = some (P.take k) := by
      unfold Zgb; rw [if_pos ⟨by omega, by omega, by omega⟩, Int.toNat_natCast]; rfl
    have jk := judge (hP.take k) (by rw [List.length_take]; omega) (ZZl bP k); have jf := Zsl (rule := rule) hb' (by omega) (k := k) (by omega); rw [if_neg (by omega)] at jf; rw [decide_eq_true (by omega), ZH, cut, Zg, jk, Zg, jf, Zg]; have c3 : ((k : Int) != (k : Int)) = false := bne_self_eq_false ..; have c4 : ((2 : Int) != 2) = false := rfl; simp only [c0, c3, c4, ZG, Zg]; rw [Zja (by omega) (by omega), Zg]; rfl
  · rw [decide_eq_false (by omega), ZG]
  rw [ZFk log (by omega), Zg]; simp only; rw [ZPm, Zg]; by_cases cL : Z8b (Zza log) = 0
  · have b0 : (Z8b (Zza log) != 0) = false := by simpa using cL
    rw [b0, ZG]; have bQ : (Zza log).any Zbb = false := by
      unfold Z8b at cL; rw [if_neg (by omega)] at cL
      cases h : (Zza log).any Zbb
      · rfl
      · rw [h] at cL; simp at cL
    refine Zhb (y := .inl ()) (Zhb (Zhe (r := .inr ()) (fun k => (prevD (fun j => (Z7c P rule ((Zza log).take j)).1) k, (k : Int))) (log.length + 1) rfl (by omega) (fun k hk => ?_) ?_) rfl) rfl
    · have cut : Zgb log (0 : Int) (k : Int) = some (log.take k) := by
        unfold Zgb; rw [if_pos ⟨by omega, by omega, by omega⟩, Int.toNat_natCast]; rfl
      have ev := Zkm (log.take k) (by rw [List.length_take]; omega); have pt : Zza (log.take k) = (Zza log).take k := List.map_take ..; have jk := judge (hQ.take k) (by rw [List.length_take]; omega) (ZZl bQ k); have hmono : prevD (fun j => (Z7c P rule ((Zza log).take j)).1) k ≤ (Z7c P rule ((Zza log).take k)).1 := by
        cases k with
        | zero => exact Int.le_refl _
        | succ j =>
          show (Z7c P rule ((Zza log).take j)).1 ≤ (Z7c P rule ((Zza log).take (j + 1))).1; rw [List.take_succ_eq_append_getElem (by omega)]; exact Zam P rule _ _ _
      simp only; rw [decide_eq_true (by omega), ZH, cut, Zg, ev, Zg, pt, jk, Zg, Zg]; simp only; rw [c0, ZG, decide_eq_false (by omega), Zg, ZG, Zja (by omega) (by omega), Zg]; rfl
    · simp only; rw [decide_eq_false (by omega), ZG]
  · have b0 : (Z8b (Zza log) != 0) = true := by simpa using cL
    rw [b0, ZH]
theorem ZDl {α : Type} {A : Rep α} {v : Zd} {cs : List Value} {l : List α} (h : (Zt A).rel v cs l) {x : α} (hx : x ∈ l) : ∃ c, A.rel v c x := by
  obtain ⟨q, cap, rfl, h1, h2, h3⟩ := h; rcases h3 with rfl | ⟨b, off, c, T, fr, e, hb, hr⟩
  · cases hx
  · obtain ⟨i, hi, rfl⟩ := List.getElem_of_mem hx; exact ⟨_, Zya hr (List.getElem?_eq_getElem hi)⟩
theorem ZWe {v : Zd} {c : List Value} {r : Int × Int} (h : Rep.rel (Zq (Za .i64) (Za .i64)) v c r) : i64 r := by
  obtain ⟨c1, c2, _, ⟨_, h1⟩, _, h2⟩ := h; exact ⟨ZFb.1 h1, ZFb.1 h2⟩
end Go.Eng
namespace Go.Eng
open Go.RowKit
theorem Zf {α : Type _} {a b : α} (h : some a = some b) : a = b := Option.some.inj h
theorem Zy (b : Bool) : b = true ∨ b = false := (Bool.eq_false_or_eq_true b)
theorem leT {a b c : Zd} (h : a.le b) (k : b.le c) : a.le c := Zd.le_trans h k
theorem leR (v : Zd) : v.le v := Zd.le_refl v
theorem Zm {P : Program} {Q : Exit → Act → World → Prop} {a : Act} {w : World} {id : Nat} {l : List Oper} (h : wpList P l.toArray Q l a w) : (Code.region id l.toArray false).wp P Q a w := wp_region_lit h
theorem Zh {P : Program} {Q : Exit → Act → World → Prop} {a : Act} {w : World} {x y : Code} (h : ∀ K : Act → World → Prop, (∀ a w, y.wp P Q a w → K a w) → x.wp P (Exit.then K Q) a w) : (Code.seq x y).wp P Q a w := wp_seq_k h
theorem Zo {α : Type} {A : Rep α} {v v' : Zd} {cs : List Value} {x : α} (hv : v.le v') (h : A.rel v cs x) : A.rel v' cs x := A.mono hv h
theorem Zua {α : Type} (A : Rep α) {v : Zd} {cs : List Value} {x : α} (h : A.rel v cs x) : cs.all ZPa = true := A.flat h
theorem Atm {v v' : Zd} {b off : Nat} {cs : List Value} (h : v.le v') (k : At v b off cs) : At v' b off cs := At.mono h k
end Go.Eng
namespace Go.Eng
open Go.Proofs Go.RowKit
theorem Z2l : ZFg Tryz.prog 291 20 1 := ⟨5, fun _ => by kernel_rfl, fun _ => by kernel_rfl⟩
theorem Zsb : ZFg Tryz.prog 51 3 2 := ⟨50, fun _ => by kernel_rfl, fun _ => by kernel_rfl⟩
theorem Zud : ZWd Tryz.prog 211 212 .u64 .u32 := fun _ _ => by kernel_rfl
theorem Zfk : ZWd Tryz.prog 211 5 .u64 .u8 := fun _ _ => by kernel_rfl
theorem Z4j : ZWd Tryz.prog 212 2 .u32 .i64 := fun _ _ => by kernel_rfl
theorem ZDc : ZWd Tryz.prog 212 211 .u32 .u64 := fun _ _ => by kernel_rfl
theorem ZBh : ZWd Tryz.prog 2 211 .i64 .u64 := fun _ _ => by kernel_rfl
theorem Zun : ZWd Tryz.prog 2 212 .i64 .u32 := fun _ _ => by kernel_rfl
theorem ZOj : ZWd Tryz.prog 3 253 .i64 .u64 := fun _ _ => by kernel_rfl
theorem k_cv5_3 : ZWd Tryz.prog 5 3 .u8 .i64 := fun _ _ => by kernel_rfl
theorem ZQk : Elem Tryz.prog 123 129 6 112 (Value.agg #[Value.bool false, Value.slice none 0 0, Value.slice none 0 0, Value.bool false, Value.slice none 0 0, Value.slice none 0 0]) := ⟨Tryz.underlying123, by kernel_rfl, rfl, by decide⟩
theorem ZBl : Elem Tryz.prog 124 214 6 112 (Value.agg #[Value.bool false, Value.slice none 0 0, Value.slice none 0 0, Value.bool false, Value.slice none 0 0, Value.slice none 0 0]) := ⟨Tryz.underlying124, by kernel_rfl, rfl, by decide⟩
theorem ZRg : Elem Tryz.prog 127 131 6 112 (Value.agg #[Value.bool false, Value.slice none 0 0, Value.slice none 0 0, Value.bool false, Value.slice none 0 0, Value.slice none 0 0]) := ⟨Tryz.underlying127, by kernel_rfl, rfl, by decide⟩
theorem Z5k : Elem Tryz.prog 263 9 1 16 (Value.string (Zla [])) := ⟨Tryz.underlying263, by kernel_rfl, rfl, by decide⟩
theorem Zag : Elem Tryz.prog 28 3 1 8 (Value.int IntKind.i64 0) := ⟨Tryz.underlying28, by kernel_rfl, rfl, by decide⟩
theorem ZCc : Elem Tryz.prog 30 211 1 8 (Value.int IntKind.u64 0) := ⟨Tryz.underlying30, by kernel_rfl, rfl, by decide⟩
theorem Z1b : Elem Tryz.prog 40 212 1 4 (Value.int IntKind.u32 0) := ⟨Tryz.underlying40, by kernel_rfl, rfl, by decide⟩
theorem Zjf : Elem Tryz.prog 80 34 3 56 (Value.agg #[Value.bool false, Value.slice none 0 0, Value.slice none 0 0]) := ⟨Tryz.underlying80, by kernel_rfl, rfl, by decide⟩
theorem Z1l : Elem Tryz.prog 85 42 3 56 (Value.agg #[Value.bool false, Value.slice none 0 0, Value.slice none 0 0]) := ⟨Tryz.underlying85, by kernel_rfl, rfl, by decide⟩
theorem k_en100 : ZT Tryz.prog 100 := fun _ _ => by kernel_rfl
theorem Zge : ZT Tryz.prog 101 := fun _ _ => by kernel_rfl
theorem ZPf : ZT Tryz.prog 102 := fun _ _ => by kernel_rfl
theorem ZYf : ZT Tryz.prog 103 := fun _ _ => by kernel_rfl
theorem Zpd : ZT Tryz.prog 104 := fun _ _ => by kernel_rfl
theorem k_en105 : ZT Tryz.prog 105 := fun _ _ => by kernel_rfl
theorem k_en106 : ZT Tryz.prog 106 := fun _ _ => by kernel_rfl
theorem Zdj : ZT Tryz.prog 107 := fun _ _ => by kernel_rfl
theorem k_en108 : ZT Tryz.prog 108 := fun _ _ => by kernel_rfl
theorem k_en109 : ZT Tryz.prog 109 := fun _ _ => by kernel_rfl
theorem ZUi : ZT Tryz.prog 110 := fun _ _ => by kernel_rfl
theorem k_en112 : ZT Tryz.prog 112 := fun _ _ => by kernel_rfl
theorem Zij : ZT Tryz.prog 114 := fun _ _ => by kernel_rfl
theorem Zwl : ZT Tryz.prog 115 := fun _ _ => by kernel_rfl
theorem k_en119 : ZT Tryz.prog 119 := fun _ _ => by kernel_rfl
theorem k_en120 : ZT Tryz.prog 120 := fun _ _ => by kernel_rfl
theorem k_en121 : ZT Tryz.prog 121 := fun _ _ => by kernel_rfl
theorem Z3h : ZT Tryz.prog 124 := fun _ _ => by kernel_rfl
theorem Z4g : ZT Tryz.prog 126 := fun _ _ => by kernel_rfl
theorem k_en127 : ZT Tryz.prog 127 := fun _ _ => by kernel_rfl
theorem k_en128 : ZT Tryz.prog 128 := fun _ _ => by kernel_rfl
theorem k_en129 : ZT Tryz.prog 129 := fun _ _ => by kernel_rfl
theorem Zul : ZT Tryz.prog 137 := fun _ _ => by kernel_rfl
theorem k_en138 : ZT Tryz.prog 138 := fun _ _ => by kernel_rfl
theorem Z9d : ZT Tryz.prog 139 := fun _ _ => by kernel_rfl
theorem k_en140 : ZT Tryz.prog 140 := fun _ _ => by kernel_rfl
theorem k_en141 : ZT Tryz.prog 141 := fun _ _ => by kernel_rfl
theorem k_en144 : ZT Tryz.prog 144 := fun _ _ => by kernel_rfl
theorem ZQh : ZT Tryz.prog 145 := fun _ _ => by kernel_rfl
theorem Zph : ZT Tryz.prog 146 := fun _ _ => by kernel_rfl
theorem ZKj : ZT Tryz.prog 147 := fun _ _ => by kernel_rfl
theorem Zjd : ZT Tryz.prog 149 := fun _ _ => by kernel_rfl
theorem Zvf : ZT Tryz.prog 15 := fun _ _ => by kernel_rfl
theorem Zol : ZT Tryz.prog 150 := fun _ _ => by kernel_rfl
theorem Ztl : ZT Tryz.prog 151 := fun _ _ => by kernel_rfl
theorem ZWl : ZT Tryz.prog 152 := fun _ _ => by kernel_rfl
theorem k_en153 : ZT Tryz.prog 153 := fun _ _ => by kernel_rfl
theorem k_en154 : ZT Tryz.prog 154 := fun _ _ => by kernel_rfl
theorem Zpj : ZT Tryz.prog 155 := fun _ _ => by kernel_rfl
theorem ZVd : ZT Tryz.prog 156 := fun _ _ => by kernel_rfl
theorem k_en157 : ZT Tryz.prog 157 := fun _ _ => by kernel_rfl
theorem Zjj : ZT Tryz.prog 158 := fun _ _ => by kernel_rfl
theorem k_en159 : ZT Tryz.prog 159 := fun _ _ => by kernel_rfl
theorem k_en161 : ZT Tryz.prog 161 := fun _ _ => by kernel_rfl
theorem Zxk : ZT Tryz.prog 167 := fun _ _ => by kernel_rfl
theorem k_en168 : ZT Tryz.prog 168 := fun _ _ => by kernel_rfl
theorem k_en169 : ZT Tryz.prog 169 := fun _ _ => by kernel_rfl
theorem k_en17 : ZT Tryz.prog 17 := fun _ _ => by kernel_rfl
theorem k_en170 : ZT Tryz.prog 170 := fun _ _ => by kernel_rfl
theorem k_en171 : ZT Tryz.prog 171 := fun _ _ => by kernel_rfl
theorem k_en172 : ZT Tryz.prog 172 := fun _ _ => by kernel_rfl
theorem k_en173 : ZT Tryz.prog 173 := fun _ _ => by kernel_rfl
theorem k_en174 : ZT Tryz.prog 174 := fun _ _ => by kernel_rfl
theorem k_en175 : ZT Tryz.prog 175 := fun _ _ => by kernel_rfl
theorem Zvk : ZT Tryz.prog 176 := fun _ _ => by kernel_rfl
theorem Zwh : ZT Tryz.prog 177 := fun _ _ => by kernel_rfl
theorem k_en178 : ZT Tryz.prog 178 := fun _ _ => by kernel_rfl
theorem k_en179 : ZT Tryz.prog 179 := fun _ _ => by kernel_rfl
theorem k_en181 : ZT Tryz.prog 181 := fun _ _ => by kernel_rfl
theorem Zhk : ZT Tryz.prog 182 := fun _ _ => by kernel_rfl
theorem k_en183 : ZT Tryz.prog 183 := fun _ _ => by kernel_rfl
theorem k_en184 : ZT Tryz.prog 184 := fun _ _ => by kernel_rfl
theorem k_en185 : ZT Tryz.prog 185 := fun _ _ => by kernel_rfl
theorem Zpl : ZT Tryz.prog 19 := fun _ _ => by kernel_rfl
theorem ZGl : ZT Tryz.prog 190 := fun _ _ => by kernel_rfl
theorem k_en196 : ZT Tryz.prog 196 := fun _ _ => by kernel_rfl
theorem k_en197 : ZT Tryz.prog 197 := fun _ _ => by kernel_rfl
theorem k_en198 : ZT Tryz.prog 198 := fun _ _ => by kernel_rfl
theorem ZZd : ZT Tryz.prog 20 := fun _ _ => by kernel_rfl
theorem Zah : ZT Tryz.prog 21 := fun _ _ => by kernel_rfl
theorem k_en26 : ZT Tryz.prog 26 := fun _ _ => by kernel_rfl
theorem Zoc : ZT Tryz.prog 28 := fun _ _ => by kernel_rfl
theorem Zuf : ZT Tryz.prog 29 := fun _ _ => by kernel_rfl
theorem Zoe : ZT Tryz.prog 30 := fun _ _ => by kernel_rfl
theorem Zde : ZT Tryz.prog 31 := fun _ _ => by kernel_rfl
theorem Z5h : ZT Tryz.prog 32 := fun _ _ => by kernel_rfl
theorem ZBe : ZT Tryz.prog 35 := fun _ _ => by kernel_rfl
theorem ZTi : ZT Tryz.prog 37 := fun _ _ => by kernel_rfl
theorem k_en52 : ZT Tryz.prog 52 := fun _ _ => by kernel_rfl
theorem k_en54 : ZT Tryz.prog 54 := fun _ _ => by kernel_rfl
theorem ZRh : ZT Tryz.prog 61 := fun _ _ => by kernel_rfl
theorem Zue : ZT Tryz.prog 62 := fun _ _ => by kernel_rfl
theorem Z7l : ZT Tryz.prog 63 := fun _ _ => by kernel_rfl
theorem Znd : ZT Tryz.prog 64 := fun _ _ => by kernel_rfl
theorem Z0e : ZT Tryz.prog 65 := fun _ _ => by kernel_rfl
theorem k_en66 : ZT Tryz.prog 66 := fun _ _ => by kernel_rfl
theorem ZLl : ZT Tryz.prog 67 := fun _ _ => by kernel_rfl
theorem Zog : ZT Tryz.prog 80 := fun _ _ => by kernel_rfl
theorem k_en81 : ZT Tryz.prog 81 := fun _ _ => by kernel_rfl
theorem Zjl : ZT Tryz.prog 82 := fun _ _ => by kernel_rfl
theorem Zcd : ZT Tryz.prog 84 := fun _ _ => by kernel_rfl
theorem Zld : ZT Tryz.prog 85 := fun _ _ => by kernel_rfl
theorem Zgj : ZT Tryz.prog 86 := fun _ _ => by kernel_rfl
theorem Zrf : ZT Tryz.prog 87 := fun _ _ => by kernel_rfl
theorem Zri : ZT Tryz.prog 88 := fun _ _ => by kernel_rfl
theorem k_en89 : ZT Tryz.prog 89 := fun _ _ => by kernel_rfl
theorem k_en90 : ZT Tryz.prog 90 := fun _ _ => by kernel_rfl
theorem k_en98 : ZT Tryz.prog 98 := fun _ _ => by kernel_rfl
theorem ZBg : ZT Tryz.prog 99 := fun _ _ => by kernel_rfl
theorem Zuh : EqB Tryz.prog 4 := fun _ _ _ => by kernel_rfl
theorem ZOf : Z8e Tryz.prog 148 add64Entry := ⟨_, Tryz.func148, by kernel_rfl, by kernel_rfl, by kernel_rfl, by kernel_rfl⟩
theorem Z7j : Z8e Tryz.prog 180 ZDi := ⟨_, Tryz.func180, by kernel_rfl, by kernel_rfl, by kernel_rfl, by kernel_rfl⟩
theorem Zak : Z7a Tryz.prog 100 0 0 := fun _ _ _ => by kernel_rfl
theorem ZOe : Z7a Tryz.prog 100 1 3 := fun _ _ _ => by kernel_rfl
theorem Z9f : Z7a Tryz.prog 129 0 0 := fun _ _ _ => by kernel_rfl
theorem Zfh : Z7a Tryz.prog 129 1 3 := fun _ _ _ => by kernel_rfl
theorem ZEf : Z7a Tryz.prog 131 0 0 := fun _ _ _ => by kernel_rfl
theorem ZGf : Z7a Tryz.prog 131 1 3 := fun _ _ _ => by kernel_rfl
theorem Zzi : Z7a Tryz.prog 133 0 0 := fun _ _ _ => by kernel_rfl
theorem Zti : Z7a Tryz.prog 133 1 3 := fun _ _ _ => by kernel_rfl
theorem Zni : Z7a Tryz.prog 135 0 0 := fun _ _ _ => by kernel_rfl
theorem ZGh : Z7a Tryz.prog 135 1 1 := fun _ _ _ => by kernel_rfl
theorem ZGk : Z7a Tryz.prog 214 0 0 := fun _ _ _ => by kernel_rfl
theorem ZLo : Z7a Tryz.prog 214 1 3 := fun _ _ _ => by kernel_rfl
theorem ZZa : Z7a Tryz.prog 32 0 0 := fun _ _ _ => by kernel_rfl
theorem ZXa : Z7a Tryz.prog 32 1 1 := fun _ _ _ => by kernel_rfl
theorem ZSa : Z7a Tryz.prog 34 0 0 := fun _ _ _ => by kernel_rfl
theorem Zlb : Z7a Tryz.prog 34 1 2 := fun _ _ _ => by kernel_rfl
theorem Zkj : Z7a Tryz.prog 42 0 0 := fun _ _ _ => by kernel_rfl
theorem ZGi : Z7a Tryz.prog 42 1 1 := fun _ _ _ => by kernel_rfl
theorem Zfi : Z7a Tryz.prog 50 0 0 := fun _ _ _ => by kernel_rfl
theorem Zhh : Z7a Tryz.prog 50 1 1 := fun _ _ _ => by kernel_rfl
theorem Zvh : Z7a Tryz.prog 53 0 0 := fun _ _ _ => by kernel_rfl
theorem Zbi : Z7a Tryz.prog 53 1 3 := fun _ _ _ => by kernel_rfl
theorem Zwp : Z7a Tryz.prog 53 2 6 := fun _ _ _ => by kernel_rfl
theorem Z3i : Z7a Tryz.prog 98 0 0 := fun _ _ _ => by kernel_rfl
theorem Zcf : Z7a Tryz.prog 98 1 2 := fun _ _ _ => by kernel_rfl
theorem Zka : Tryz.prog.follows .mixedOrders = true := by kernel_rfl
theorem ZSf : NeB Tryz.prog 4 := fun _ _ _ => by kernel_rfl
theorem ZMc : ZWb Tryz.prog 123 129 6 := ⟨fun _ => by kernel_rfl, fun _ => by kernel_rfl⟩
theorem ZZf : ZWb Tryz.prog 124 214 6 := ⟨fun _ => by kernel_rfl, fun _ => by kernel_rfl⟩
theorem Zze : ZWb Tryz.prog 127 131 6 := ⟨fun _ => by kernel_rfl, fun _ => by kernel_rfl⟩
theorem Zeb : ZWb Tryz.prog 22 28 1 := ⟨fun _ => by kernel_rfl, fun _ => by kernel_rfl⟩
theorem ZQj : ZWb Tryz.prog 263 9 1 := ⟨fun _ => by kernel_rfl, fun _ => by kernel_rfl⟩
theorem ZYb : ZWb Tryz.prog 28 3 1 := ⟨fun _ => by kernel_rfl, fun _ => by kernel_rfl⟩
theorem ZR : ZWb Tryz.prog 30 211 1 := ⟨fun _ => by kernel_rfl, fun _ => by kernel_rfl⟩
theorem Zca : ZWb Tryz.prog 40 212 1 := ⟨fun _ => by kernel_rfl, fun _ => by kernel_rfl⟩
theorem ZKc : ZWb Tryz.prog 80 34 3 := ⟨fun _ => by kernel_rfl, fun _ => by kernel_rfl⟩
theorem ZWc : ZWb Tryz.prog 94 98 4 := ⟨fun _ => by kernel_rfl, fun _ => by kernel_rfl⟩
theorem Zkl : ZWb Tryz.prog 96 50 2 := ⟨fun _ => by kernel_rfl, fun _ => by kernel_rfl⟩
theorem Zpe : Sized Tryz.prog 100 4 true := ⟨fun _ => by kernel_rfl, fun _ => by kernel_rfl⟩
theorem ZCi : Sized Tryz.prog 102 4 true := ⟨fun _ => by kernel_rfl, fun _ => by kernel_rfl⟩
theorem ZEg : Sized Tryz.prog 129 6 true := ⟨fun _ => by kernel_rfl, fun _ => by kernel_rfl⟩
theorem ZXh : Sized Tryz.prog 131 6 true := ⟨fun _ => by kernel_rfl, fun _ => by kernel_rfl⟩
theorem Zxc : Sized Tryz.prog 133 6 true := ⟨fun _ => by kernel_rfl, fun _ => by kernel_rfl⟩
theorem ZVc : Sized Tryz.prog 135 2 true := ⟨fun _ => by kernel_rfl, fun _ => by kernel_rfl⟩
theorem Zfe : Sized Tryz.prog 2 1 false := ⟨fun _ => by kernel_rfl, fun _ => by kernel_rfl⟩
theorem Zra : Sized Tryz.prog 211 1 false := ⟨fun _ => by kernel_rfl, fun _ => by kernel_rfl⟩
theorem Zjb : Sized Tryz.prog 212 1 false := ⟨fun _ => by kernel_rfl, fun _ => by kernel_rfl⟩
theorem Z6d : Sized Tryz.prog 22 1 false := ⟨fun _ => by kernel_rfl, fun _ => by kernel_rfl⟩
theorem Zgi : Sized Tryz.prog 28 1 false := ⟨fun _ => by kernel_rfl, fun _ => by kernel_rfl⟩
theorem Ztb : Sized Tryz.prog 3 1 false := ⟨fun _ => by kernel_rfl, fun _ => by kernel_rfl⟩
theorem Zia : Sized Tryz.prog 30 1 false := ⟨fun _ => by kernel_rfl, fun _ => by kernel_rfl⟩
theorem ZDa : Sized Tryz.prog 32 2 true := ⟨fun _ => by kernel_rfl, fun _ => by kernel_rfl⟩
theorem Zv : Sized Tryz.prog 34 3 true := ⟨fun _ => by kernel_rfl, fun _ => by kernel_rfl⟩
theorem ZRa : Sized Tryz.prog 4 1 false := ⟨fun _ => by kernel_rfl, fun _ => by kernel_rfl⟩
theorem ZZi : Sized Tryz.prog 40 1 false := ⟨fun _ => by kernel_rfl, fun _ => by kernel_rfl⟩
theorem Zcb : Sized Tryz.prog 42 3 true := ⟨fun _ => by kernel_rfl, fun _ => by kernel_rfl⟩
theorem k_sz5 : Sized Tryz.prog 5 1 false := ⟨fun _ => by kernel_rfl, fun _ => by kernel_rfl⟩
theorem Zpa : Sized Tryz.prog 50 2 true := ⟨fun _ => by kernel_rfl, fun _ => by kernel_rfl⟩
theorem Zzc : Sized Tryz.prog 53 9 true := ⟨fun _ => by kernel_rfl, fun _ => by kernel_rfl⟩
theorem Z0i : Sized Tryz.prog 55 9 true := ⟨fun _ => by kernel_rfl, fun _ => by kernel_rfl⟩
theorem Zte : Sized Tryz.prog 80 1 false := ⟨fun _ => by kernel_rfl, fun _ => by kernel_rfl⟩
theorem k_sz9 : Sized Tryz.prog 9 1 false := ⟨fun _ => by kernel_rfl, fun _ => by kernel_rfl⟩
theorem ZKh : Sized Tryz.prog 98 4 true := ⟨fun _ => by kernel_rfl, fun _ => by kernel_rfl⟩
theorem ZDk : ∀ w, (zeroValue 100).run Tryz.prog w = .ok (Value.agg #[Value.bool false, Value.slice none 0 0, Value.slice none 0 0, Value.slice none 0 0]) w := fun _ => by kernel_rfl
theorem Zbl : ∀ w, (zeroValue 102).run Tryz.prog w = .ok (Value.agg #[Value.bool false, Value.slice none 0 0, Value.slice none 0 0, Value.slice none 0 0]) w := fun _ => by kernel_rfl
theorem ZSl : ∀ w, (zeroValue 129).run Tryz.prog w = .ok (Value.agg #[Value.bool false, Value.slice none 0 0, Value.slice none 0 0, Value.bool false, Value.slice none 0 0, Value.slice none 0 0]) w := fun _ => by kernel_rfl
theorem Z0j : ∀ w, (zeroValue 131).run Tryz.prog w = .ok (Value.agg #[Value.bool false, Value.slice none 0 0, Value.slice none 0 0, Value.bool false, Value.slice none 0 0, Value.slice none 0 0]) w := fun _ => by kernel_rfl
theorem ZSi : ∀ w, (zeroValue 133).run Tryz.prog w = .ok (Value.agg #[Value.bool false, Value.slice none 0 0, Value.slice none 0 0, Value.bool false, Value.slice none 0 0, Value.slice none 0 0]) w := fun _ => by kernel_rfl
theorem Zse : ∀ w, (zeroValue 135).run Tryz.prog w = .ok (Value.agg #[Value.int IntKind.i64 0, Value.int IntKind.i64 0]) w := fun _ => by kernel_rfl
theorem k_zv270 : ∀ w, (zeroValue 270).run Tryz.prog w = .ok (Value.agg #[Value.pointer none, Value.slice none 0 0]) w := fun _ => by kernel_rfl
theorem k_zv291 : ∀ w, (zeroValue 291).run Tryz.prog w = .ok (Value.agg #[Value.int IntKind.u8 0, Value.int IntKind.u8 0, Value.int IntKind.u8 0, Value.int IntKind.u8 0, Value.int IntKind.u8 0, Value.int IntKind.u8 0, Value.int IntKind.u8 0, Value.int IntKind.u8 0, Value.int IntKind.u8 0, Value.int IntKind.u8 0, Value.int IntKind.u8 0, Value.int IntKind.u8 0, Value.int IntKind.u8 0, Value.int IntKind.u8 0, Value.int IntKind.u8 0, Value.int IntKind.u8 0, Value.int IntKind.u8 0, Value.int IntKind.u8 0, Value.int IntKind.u8 0, Value.int IntKind.u8 0]) w := fun _ => by kernel_rfl
theorem Z3c : ∀ w, (zeroValue 32).run Tryz.prog w = .ok (Value.agg #[Value.bool false, Value.slice none 0 0]) w := fun _ => by kernel_rfl
theorem ZBa : ∀ w, (zeroValue 34).run Tryz.prog w = .ok (Value.agg #[Value.bool false, Value.slice none 0 0, Value.slice none 0 0]) w := fun _ => by kernel_rfl
theorem ZJe : ∀ w, (zeroValue 42).run Tryz.prog w = .ok (Value.agg #[Value.bool false, Value.slice none 0 0, Value.slice none 0 0]) w := fun _ => by kernel_rfl
theorem k_zv50 : ∀ w, (zeroValue 50).run Tryz.prog w = .ok (Value.agg #[Value.int IntKind.i64 0, Value.int IntKind.i64 0]) w := fun _ => by kernel_rfl
theorem Zuk : ∀ w, (zeroValue 53).run Tryz.prog w = .ok (Value.agg #[Value.bool false, Value.slice none 0 0, Value.slice none 0 0, Value.bool false, Value.slice none 0 0, Value.slice none 0 0, Value.bool false, Value.slice none 0 0, Value.slice none 0 0]) w := fun _ => by kernel_rfl
theorem Zok : ∀ w, (zeroValue 55).run Tryz.prog w = .ok (Value.agg #[Value.bool false, Value.slice none 0 0, Value.slice none 0 0, Value.bool false, Value.slice none 0 0, Value.slice none 0 0, Value.bool false, Value.slice none 0 0, Value.slice none 0 0]) w := fun _ => by kernel_rfl
theorem Zll : ∀ w, (zeroValue 98).run Tryz.prog w = .ok (Value.agg #[Value.int IntKind.i64 0, Value.int IntKind.i64 0, Value.int IntKind.i64 0, Value.int IntKind.i64 0]) w := fun _ => by kernel_rfl
theorem cut_w {e : World} {d : Zd} (hv : VIn d e) {E : List Value} {a : (List Int)} (F : Rep.rel (Zt (Za .u64)) d E a) {z : (List Int)} (H : ZVg a = some z) : Ret Tryz.prog 149 #[(Zt (Za .u64)).val E] e d (fun y v' => ∃ G, y = (Zt (Za .u64)).val G ∧ (Zt (Za .u64)).rel v' G z) := by
  obtain ⟨M, N, O, rfl⟩ := Zqa F; refine ZU (K := 21) (args := [.slice M (N) O]) hv Tryz.func149 rfl rfl zl fun f S => ?_; unfold ZVg at H; refine sr ?_; have S := S.nilLoc 211 1; refine ov S rfl (Zga S (y := .slice (mkA none) 0 0) rfl) fun f S => oe (Zh fun _ P => ?_); obtain ⟨Q, R, T⟩ := Zb H; refine ZO (fun f w => ∃ (B : (List Int)) (j : Option Addr) (k : Nat) (l : Nat) (m : Zd), B = Q ∧ Zd.le d m ∧ St 21 e d [(0, .slice j (k) l)] [] m f w ∧ Rep.rel (Zt (Za .u64)) m [.slice j (k) l] B) (fun _ U => ?_) ?_
  · have H := R; refine wp_block ?_; obtain ⟨am, V, W⟩ := Zb H; have S := S.reorder (ℓ' := []) [] rfl (by decide); refine Zha V (fun X f w => ∃ (n : (List Int)) (o : Option Addr) (q : Nat) (s : Nat) (g : Zd), n = X ∧ Zd.le d g ∧ St 21 e d [(0, .slice o (q) s)] [] g f w ∧ Rep.rel (Zt (Za .u64)) g [.slice o (q) s] n) ⟨_, _, _, _, _, rfl, (leR _), (S.fr' rfl), F⟩ ?_; rintro _ f w st ⟨n, o, q, s, g, hq, I, S, c⟩ H an Y Z; subst hq; refine Zh fun _ aa => Zh fun _ ab => ?_; obtain ⟨ac, ad, ae⟩ := Zb H; refine ZO (fun f w => ∃ (u : Bool) (C : Zd), u = ac ∧ Zd.le g C ∧ St 21 e d [(0, .slice o (q) s), (14, .bool (u))] [] C f w) (fun _ J => ?_) ?_
    · have H := ad; rcases Zy (decide ((0 : Int) < (n.length : Int))) with h | h
      · have H := Zw H h; obtain ⟨ao, af, H⟩ := Zb H; obtain ⟨ap, D, H⟩ := Zb H; refine Zm (mv S rfl fun f S => ov S rfl (ZF S (Zu c) rfl rfl ZR) fun f S => ov S rfl (Zj S rfl rfl Zwa) fun f S => ?_); have S := S.bool (t := 5) rfl h; refine mv S rfl fun f S => opy S rfl rfl rfl rfl (Zr S rfl) fun f S => opy S rfl rfl rfl rfl (Zr S rfl) fun f S => opy S rfl rfl rfl rfl (ZF S (Zu c) rfl rfl ZR) fun f S => opy S rfl rfl rfl rfl (Zj S rfl rfl (ZAa af)) fun f S => ?_; obtain ⟨_, aq, ar, au, rfl, ag, ah⟩ := Zda c (Zk D).2.1; obtain ⟨rfl, av⟩ := ah; refine opy S rfl rfl rfl rfl (ZS S rfl rfl ZR (Zk D).1 (ltI (Zu c) (Zk D).2.2.1)) fun f S => opy S rfl rfl rfl rfl (Z2 S rfl Zra (S.view ag)) fun f S => opy S rfl rfl rfl rfl (Zj S rfl rfl Zfa) fun f S => ov S rfl (ZQ S (b := true) rfl rfl) fun f S => Zl ?_; obtain rfl := Zf H; refine Zc (J _ _ ⟨_, _, rfl, (leR _), (S.fr' rfl)⟩)
      have H := Zz H h; refine Zm (mv S rfl fun f S => ov S rfl (ZF S (Zu c) rfl rfl ZR) fun f S => ov S rfl (Zj S rfl rfl Zwa) fun f S => ?_); have S := S.bool (t := 5) rfl h; refine mv S rfl fun f S => opn S rfl rfl rfl rfl fun f S => opn S rfl rfl rfl rfl fun f S => opn S rfl rfl rfl rfl fun f S => opn S rfl rfl rfl rfl fun f S => opn S rfl rfl rfl rfl fun f S => opn S rfl rfl rfl rfl fun f S => opn S rfl rfl rfl rfl fun f S => ov S rfl (ZQ S (b := false) rfl rfl) fun f S => Zl ?_; obtain rfl := Zf H; refine Zc (J _ _ ⟨_, _, rfl, (leR _), (S.fr' rfl)⟩)
    rintro f w ⟨u, C, hq, v, S⟩; subst hq; have H := ae; refine Zc (ab _ _ ?_); rcases Zy (u) with i | i
    · have H := Zw H i; refine ZD S rfl i (wp_skip (Zc (aa _ _ (wp_block ?_)))); obtain ⟨ai, aj, H⟩ := Zb H; obtain ⟨aw, x, H⟩ := Zb H; refine Zm (mv S rfl fun f S => mv S rfl fun f S => ?_); have c := Zo v c; refine ov S rfl (ZF S (Zu c) rfl rfl ZR) fun f S => ov S rfl (Zj S rfl rfl (ZAa aj)) fun f S => ?_; obtain ⟨ax, ay, ak, L⟩ := ZOg S (A := (Za .u64)) (p := (0 : Int)) (r := ai) ZR c (Z4a x).1 (Z4a x).2.1 (Z4a x).2.2.1; rw [← (Z4a x).2.2.2.1] at L; refine ov S rfl (ak rfl (.inl ⟨rfl, rfl⟩) (.inr ⟨_, _, rfl, rfl⟩)) fun f S => mw S rfl fun f S => Zl (Zea ?_); obtain rfl := Zf H; refine Y _ rfl _ _ ⟨_, _, _, _, _, rfl, (leT I v), (S.fr' rfl), L⟩
    have H := Zz H i; refine ZC S rfl i (wp_exit (ZJ ?_)); obtain rfl := Zf H; have hq := Z _ rfl; subst hq; have H := W; refine ZJ (Zba ?_); obtain rfl := Zf H; have c := Zo v c; refine Zc (U _ _ ⟨_, _, _, _, _, rfl, (leT (leT (leR _) I) v), (S.fr' rfl), c⟩)
  rintro f w ⟨B, j, k, l, m, hq, az, S, al⟩; subst hq; have H := T; refine Zc (P _ _ (sr (mv S rfl fun f S => mw S rfl fun f S => oe (wp_ret ?_)))); obtain rfl := Zf H; refine ZB S (ZK rfl (ZE S rfl)) ⟨[.slice j (k) l], rfl, al⟩
theorem Zrd {d : World} {b : Zd} (hv : VIn b d) {e : List Value} {a : (List Int)} (c : Rep.rel (Zt (Za .u64)) b e a) {z : Nat} (hm : Zob a = some z) :
    Ret Tryz.prog 149 #[(Zt (Za .u64)).val e] d b (fun y v' => ∃ f, y = ZA.val f ∧ ZA.rel v' f z) :=
  by cases hm; exact cut_w hv c (cut_eq (ZXi c).1 (ZXi c).2)
theorem word_w {b : World} {a : Zd} (hv : VIn a b) {c : List Value} {n : Int} (h : Rep.rel (Za .u64) a c n) {z : Nat} (H : Zkh n = some z) : Ret Tryz.prog 139 #[(Za .u64).val c] b a (fun y v' => ∃ d, y = ZA.val d ∧ ZA.rel v' d z) := by
  obtain ⟨rfl, j⟩ := h; refine ZU (K := 6) (args := [.int .u64 (n)]) hv Tryz.func139 rfl rfl zl fun f S => ?_; unfold Zkh at H; refine sr (mw S rfl fun f S => oe (Zh fun _ k => ?_)); obtain ⟨u, m, H⟩ := Zb H; refine Zm (mv S rfl fun f S => ?_); obtain ⟨e, w, o, S⟩ := ZTa S (n := 1) (cs := [.int .u64 (n)]) (vals := [(0, .int .u64 (n))]) (sz := 1) rfl (by decide) (Zub ZCc (x := .int .u64 (n)) (cs := [.int .u64 (n)]) rfl rfl (by decide)); have p : Rep.rels (Za .u64) a [.int .u64 (n)] [n] := (ZGa (Zp j) Zva); refine Zna wn rfl zl (o rfl) S fun f S => ?_; obtain ⟨v, B, S, q⟩ := S.pubSlice (i := 0) (A := (Za .u64)) (l := [n]) (ℓ' := []) rfl rfl rfl p rfl; refine opc S rfl (Zn S [.slice (mkA (some e)) (1) 1] Zjd rfl rfl) (Zrd S.vin (show Rep.rel (Zt (Za .u64)) _ [.slice (mkA (some e)) (1) 1] ([n]) from q) m) ?_; rintro _ C f w D ⟨E, rfl, g⟩ S; obtain ⟨r, s, t, rfl⟩ := ZZ g; refine mw S rfl fun f S => Zl (Zc (k _ _ (wp_ret ?_))); obtain rfl := Zf H; refine ZB S (ZK rfl (ZE S rfl)) ⟨[.slice r s t], rfl, g⟩
theorem Z5d {b : World} {a : Zd} (hv : VIn a b) {c : List Value} {n : Int} (e : Rep.rel (Za .u64) a c n) {z : Nat} (hm : ZUb n = some z) :
    Ret Tryz.prog 139 #[(Za .u64).val c] b a (fun y v' => ∃ d, y = ZA.val d ∧ ZA.rel v' d z) :=
  word_w hv e (Zbo hm)
theorem of_w {k : World} {j : Zd} (hv : VIn j k) {l : List Value} {n : Int} (q : Rep.rel (Za .i64) j l n) {z : Int} (H : of_m n = some z) : Ret Tryz.prog 88 #[(Za .i64).val l] k j (fun y v' => ∃ m, y = Z1.val m ∧ Z1.rel v' m z) := by
  obtain ⟨rfl, G⟩ := q; refine ZU (K := 14) (args := [.int .i64 (n)]) hv Tryz.func88 rfl rfl zl fun f S => ?_; unfold of_m at H; refine sr (Zaa S wn rfl zl (cs := [.bool false, .slice none 0 0]) (ZV Z3c) fun I f w S => oe (Zh fun _ r => sr (mv S rfl fun f S => ov S rfl (Zj S rfl rfl Z4) fun f S => oe ?_))); rcases Zy (decide (n < (0 : Int))) with a | a
  · have H := Zw H a; refine ZD S rfl a (Zh fun _ t => ?_); obtain ⟨J, u, H⟩ := Zb H; refine Zm (mv S rfl fun f S => ov S rfl (ZKa S rfl (ZBh _)) fun f S => ov S rfl (Zqk S rfl) fun f S => opc S rfl (Zn S [.int .u64 (IntKind.u64.wrap (-(IntKind.u64.wrap n)))] Z9d rfl rfl) (Z5d S.vin (show Rep.rel (Za .u64) _ [.int .u64 (IntKind.u64.wrap (-(IntKind.u64.wrap n)))] (IntKind.u64.wrap (-(IntKind.u64.wrap n))) from (Zp (Zta _ _))) u) ?_); rintro _ L f w M ⟨N, rfl, o⟩ S; obtain ⟨b, c, d, rfl⟩ := ZZ o; refine ov S rfl (Zoa S [(0, .bool (true)), (1, .slice b c d)] rfl (z := .agg #[.bool (true), .slice b c d]) (by kernel_rfl)) fun f S => ?_; obtain ⟨w, v, S⟩ := sbp S [.bool (true), .slice b c d] ZDa 0 0 rfl; refine ZY wn rfl (v rfl rfl) (Zl (Zc (t _ _ (wp_ret (ZL ?_))))); obtain ⟨O, x, H⟩ := Zb H; have A := ZKg (s := true) o x; obtain rfl := Zf H; refine ZB S (ZK rfl (ZTb S rfl ZDa rfl (S.box (i := 0) rfl 0 [.bool (true), .slice b c d] rfl))) ⟨[.bool (true), .slice b c d], rfl, A⟩
  have H := Zz H a; refine ZC S rfl a (wp_skip (Zc (r _ _ (Zh fun _ B => ?_)))); obtain ⟨P, C, H⟩ := Zb H; refine Zm (mv S rfl fun f S => ov S rfl (ZKa S rfl (ZBh _)) fun f S => opc S rfl (Zn S [.int .u64 (IntKind.u64.wrap n)] Z9d rfl rfl) (Z5d S.vin (show Rep.rel (Za .u64) _ [.int .u64 (IntKind.u64.wrap n)] (IntKind.u64.wrap n) from (Zp (Zta _ _))) C) ?_); rintro _ Q f w R ⟨T, rfl, p⟩ S; obtain ⟨e, g, h, rfl⟩ := ZZ p; refine ov S rfl (Zoa S [(0, .bool (false)), (1, .slice e g h)] rfl (z := .agg #[.bool (false), .slice e g h]) (by kernel_rfl)) fun f S => ?_; obtain ⟨w, D, S⟩ := sbp S [.bool (false), .slice e g h] ZDa 0 0 rfl; refine ZY wn rfl (D rfl rfl) (Zl (Zc (B _ _ (wp_ret ?_)))); obtain ⟨U, E, H⟩ := Zb H; have F := ZKg (s := false) p E; obtain rfl := Zf H; refine ZB S (ZK rfl (ZTb S rfl ZDa rfl (S.box (i := 0) rfl 0 [.bool (false), .slice e g h] rfl))) ⟨[.bool (false), .slice e g h], rfl, F⟩
theorem of_c {b : World} {a : Zd} (hv : VIn a b) {c : List Value} {n : Int} (d : Rep.rel (Za .i64) a c n) {z : Int} (hm : ofF n = some z) :
    Ret Tryz.prog 88 #[(Za .i64).val c] b a (fun y v' => ∃ e, y = Z1.val e ∧ Z1.rel v' e z) :=
  of_w hv d (ofF_eq d.2 hm)
theorem qint_w {g : World} {e : Zd} (hv : VIn e g) {h : List Value} {n : Int} (k : Rep.rel (Za .i64) e h n) {z : Rat} (H : Zlh n = some z) : Ret Tryz.prog 20 #[(Za .i64).val h] g e (fun y v' => ∃ i, y = Ze.val i ∧ Ze.rel v' i z) := by
  obtain ⟨rfl, l⟩ := k; refine ZU (K := 6) (args := [.int .i64 (n)]) hv Tryz.func20 rfl rfl zl fun f S => ?_; unfold Zlh at H; refine sr (Zaa S wn rfl zl (cs := [.bool false, .slice none 0 0, .slice none 0 0]) (ZV ZBa) fun s f w S => oe (Zh fun _ m => ?_)); obtain ⟨t, o, H⟩ := Zb H; refine Zm (mv S rfl fun f S => opc S rfl (Zn S [.int .i64 (n)] Zri rfl rfl) (of_c S.vin (show Rep.rel (Za .i64) _ [.int .i64 (n)] n from (Zp l)) o) ?_); rintro _ u f w v ⟨x, rfl, j⟩ S; obtain ⟨a, b, c, d, rfl⟩ := ZUa j; refine ov S rfl (Zoa S [(0, .agg #[.bool a, .slice b c d])] rfl (z := .agg #[.bool a, .slice b c d, .slice none 0 0]) (by kernel_rfl)) fun f S => ?_; obtain ⟨w, p, S⟩ := sbp S [.bool a, .slice b c d, .slice none 0 0] Zv 0 0 rfl; refine ZY wn rfl (p rfl rfl) (Zl (Zc (m _ _ (wp_ret ?_)))); obtain ⟨A, q, H⟩ := Zb H; have r := ZOh j (Zff _) q; obtain rfl := Zf H; refine ZB S (ZK rfl (ZLa S rfl Zv 0 rfl rfl)) ⟨[.bool a, .slice b c d, .slice none 0 0], rfl, r⟩
theorem Zje {b : World} {a : Zd} (hv : VIn a b) {c : List Value} {n : Int} (e : Rep.rel (Za .i64) a c n) {z : Rat} (hm : Zfd n = some z) :
    Ret Tryz.prog 20 #[(Za .i64).val c] b a (fun y v' => ∃ d, y = Ze.val d ∧ Ze.rel v' d z) :=
  qint_w hv e (Zto hm)
theorem len64_w {b : World} {a : Zd} (hv : VIn a b) {q : List Value} {x : Int} (J : Rep.rel (Za .u64) a q x) {z : Int} (H : Z2f x = some z) : Ret Tryz.prog 196 #[(Za .u64).val q] b a (fun y v' => ∃ r, y = (Za .i64).val r ∧ (Za .i64).rel v' r z) := by
  obtain ⟨rfl, s⟩ := J; refine ZU (K := 25) (args := [.int .u64 (x)]) hv Tryz.func196 rfl rfl zl fun f S => ?_; unfold Z2f at H; refine sr (mw S rfl fun f S => oe (Zh fun _ L => sr (mv S rfl fun f S => ov S rfl (Zj S rfl rfl Z9a) fun f S => oe ?_))); obtain ⟨M, N, O⟩ := Zb H; refine ZO (fun f w => ∃ (c : Int) (i : Int) (j : Zd), (c, i) = M ∧ Zd.le a j ∧ St 25 b a [(0, .int .u64 (c)), (2, .int .i64 (i))] [] j f w ∧ inR .u64 c ∧ inR .i64 i) (fun _ t => ?_) ?_
  · have H := N; rcases Zy (decide ((4294967296 : Int) ≤ x)) with d | d
    · have H := Zw H d; refine ZD S rfl d (Zh fun _ P => ?_); obtain ⟨ag, u, H⟩ := Zb H; refine Zm (mv S rfl fun f S => ov S rfl (Zj S rfl rfl (Zzb u)) fun f S => mw S rfl fun f S => Zl (Zc (P _ _ (Zm (mw S rfl fun f S => Zl ?_))))); obtain rfl := Zf H; refine Zc (t _ _ ⟨_, _, _, rfl, (leR _), (S.fr' rfl), (ZMd s u), (by decide)⟩)
    have H := Zz H d; refine ZC S rfl d (wp_skip ?_); obtain rfl := Zf H; refine Zc (t _ _ ⟨_, _, _, rfl, (leR _), (S.fr' rfl), s, (by decide)⟩)
  rintro f w ⟨c, i, j, hq, ah, S, v, Q⟩; subst hq; have H := O; refine Zc (L _ _ (Zh fun _ R => sr (mv S rfl fun f S => ov S rfl (Zj S rfl rfl Z9a) fun f S => oe ?_))); obtain ⟨T, U, V⟩ := Zb H; refine ZO (fun f w => ∃ (e : Int) (k : Int) (m : Zd), (e, k) = T ∧ Zd.le j m ∧ St 25 b a [(0, .int .u64 (e)), (2, .int .i64 (k))] [] m f w ∧ inR .u64 e ∧ inR .i64 k) (fun _ A => ?_) ?_
  · have H := U; rcases Zy (decide ((65536 : Int) ≤ c)) with g | g
    · have H := Zw H g; refine ZD S rfl g (Zh fun _ W => ?_); obtain ⟨ai, B, H⟩ := Zb H; refine Zm (mv S rfl fun f S => ov S rfl (Zj S rfl rfl (Zzb B)) fun f S => mw S rfl fun f S => Zl (Zc (W _ _ ?_))); obtain ⟨aj, C, H⟩ := Zb H; refine Zm (mv S rfl fun f S => ov S rfl (Zj S rfl rfl (Z7 C)) fun f S => mw S rfl fun f S => Zl ?_); obtain rfl := Zf H; refine Zc (A _ _ ⟨_, _, _, rfl, (leR _), (S.fr' rfl), (ZMd v B), (Z0 C).2⟩)
    have H := Zz H g; refine ZC S rfl g (wp_skip ?_); obtain rfl := Zf H; refine Zc (A _ _ ⟨_, _, _, rfl, (leR _), (S.fr' rfl), v, Q⟩)
  rintro f w ⟨e, k, m, hq, ak, S, D, X⟩; subst hq; have H := V; refine Zc (R _ _ (Zh fun _ Y => sr (mv S rfl fun f S => ov S rfl (Zj S rfl rfl Z9a) fun f S => oe ?_))); obtain ⟨Z, aa, ab⟩ := Zb H; refine ZO (fun f w => ∃ (n : Int) (o : Int) (p : Zd), (n, o) = Z ∧ Zd.le m p ∧ St 25 b a [(0, .int .u64 (n)), (2, .int .i64 (o))] [] p f w ∧ inR .u64 n ∧ inR .i64 o) (fun _ E => ?_) ?_
  · have H := aa; rcases Zy (decide ((256 : Int) ≤ e)) with h | h
    · have H := Zw H h; refine ZD S rfl h (Zh fun _ ac => ?_); obtain ⟨al, F, H⟩ := Zb H; refine Zm (mv S rfl fun f S => ov S rfl (Zj S rfl rfl (Zzb F)) fun f S => mw S rfl fun f S => Zl (Zc (ac _ _ ?_))); obtain ⟨am, G, H⟩ := Zb H; refine Zm (mv S rfl fun f S => ov S rfl (Zj S rfl rfl (Z7 G)) fun f S => mw S rfl fun f S => Zl ?_); obtain rfl := Zf H; refine Zc (E _ _ ⟨_, _, _, rfl, (leR _), (S.fr' rfl), (ZMd D F), (Z0 G).2⟩)
    have H := Zz H h; refine ZC S rfl h (wp_skip ?_); obtain rfl := Zf H; refine Zc (E _ _ ⟨_, _, _, rfl, (leR _), (S.fr' rfl), D, X⟩)
  rintro f w ⟨n, o, p, hq, an, S, ao, ap⟩; subst hq; have H := ab; refine Zc (Y _ _ (Zh fun _ ad => ?_)); obtain ⟨aq, ae, H⟩ := Zb H; obtain ⟨af, I, H⟩ := Zb H; refine Zm (mv S rfl fun f S => mv S rfl fun f S => ov S rfl (ZKa S rfl (Zfk _)) fun f S => ov S rfl (Zzm S (l := ([0, 1, 2, 2, 3, 3, 3, 3, 4, 4, 4, 4, 4, 4, 4, 4, 5, 5, 5, 5, 5, 5, 5, 5, 5, 5, 5, 5, 5, 5, 5, 5, 6, 6, 6, 6, 6, 6, 6, 6, 6, 6, 6, 6, 6, 6, 6, 6, 6, 6, 6, 6, 6, 6, 6, 6, 6, 6, 6, 6, 6, 6, 6, 6, 7, 7, 7, 7, 7, 7, 7, 7, 7, 7, 7, 7, 7, 7, 7, 7, 7, 7, 7, 7, 7, 7, 7, 7, 7, 7, 7, 7, 7, 7, 7, 7, 7, 7, 7, 7, 7, 7, 7, 7, 7, 7, 7, 7, 7, 7, 7, 7, 7, 7, 7, 7, 7, 7, 7, 7, 7, 7, 7, 7, 7, 7, 7, 7, 8, 8, 8, 8, 8, 8, 8, 8, 8, 8, 8, 8, 8, 8, 8, 8, 8, 8, 8, 8, 8, 8, 8, 8, 8, 8, 8, 8, 8, 8, 8, 8, 8, 8, 8, 8, 8, 8, 8, 8, 8, 8, 8, 8, 8, 8, 8, 8, 8, 8, 8, 8, 8, 8, 8, 8, 8, 8, 8, 8, 8, 8, 8, 8, 8, 8, 8, 8, 8, 8, 8, 8, 8, 8, 8, 8, 8, 8, 8, 8, 8, 8, 8, 8, 8, 8, 8, 8, 8, 8, 8, 8, 8, 8, 8, 8, 8, 8, 8, 8, 8, 8, 8, 8, 8, 8, 8, 8, 8, 8, 8, 8, 8, 8, 8, 8, 8, 8, 8, 8, 8, 8, 8, 8, 8, 8, 8, 8] : List UInt8)) (by kernel_rfl) rfl Tryz.underlying9 ae) fun f S => ov S rfl (ZKa S rfl (k_cv5_3 _)) fun f S => ov S rfl (Zj S rfl rfl (Z7 I)) fun f S => mw S rfl fun f S => Zl (Zc (ad _ _ (wp_ret ?_)))); obtain rfl := Zf H; refine ZB S (ZK rfl (ZE S rfl)) ⟨[.int .i64 (af)], rfl, (Zp (Z0 I).2)⟩
theorem len64_c {b : World} {a : Zd} (hv : VIn a b) {c : List Value} {x : Int} (e : Rep.rel (Za .u64) a c x) {z : Int} (hm : ZBf x = some z) :
    Ret Tryz.prog 196 #[(Za .u64).val c] b a (fun y v' => ∃ d, y = (Za .i64).val d ∧ (Za .i64).rel v' d z) :=
  len64_w hv e (Zom hm)
theorem lz64_w {b : World} {a : Zd} (hv : VIn a b) {c : List Value} {x : Int} (g : Rep.rel (Za .u64) a c x) {z : Int} (H : Zmi x = some z) : Ret Tryz.prog 176 #[(Za .u64).val c] b a (fun y v' => ∃ d, y = (Za .i64).val d ∧ (Za .i64).rel v' d z) := by
  obtain ⟨rfl, h⟩ := g; refine ZU (K := 6) (args := [.int .u64 (x)]) hv Tryz.func176 rfl rfl zl fun f S => ?_; unfold Zmi at H; refine sr (mw S rfl fun f S => oe (Zh fun _ i => ?_)); obtain ⟨m, j, H⟩ := Zb H; obtain ⟨k, e, H⟩ := Zb H; refine Zm (mv S rfl fun f S => opc S rfl (Zn S [.int .u64 (x)] k_en196 rfl rfl) (len64_c S.vin (show Rep.rel (Za .u64) _ [.int .u64 (x)] x from (Zp h)) j) ?_); rintro _ n f w o ⟨p, rfl, l⟩ S; obtain ⟨rfl, q⟩ := l; refine ov S rfl (Zj S rfl rfl (ZAa e)) fun f S => mw S rfl fun f S => Zl (Zc (i _ _ (wp_ret ?_))); obtain rfl := Zf H; refine ZB S (ZK rfl (ZE S rfl)) ⟨[.int .i64 (k)], rfl, (Zp (Z0 e).2)⟩
theorem Z9l {b : World} {a : Zd} (hv : VIn a b) {c : List Value} {x : Int} (e : Rep.rel (Za .u64) a c x) {z : Int} (hm : ZOd x = some z) :
    Ret Tryz.prog 176 #[(Za .u64).val c] b a (fun y v' => ∃ d, y = (Za .i64).val d ∧ (Za .i64).rel v' d z) :=
  lz64_w hv e (ZEm hm)
theorem div64_w {e : World} {c : Zd} (hv : VIn c e) {X : List Value} {hi : Int} (p0 : Rep.rel (Za .u64) c X hi) {Y : List Value} {lo : Int} (p1 : Rep.rel (Za .u64) c Y lo) {Z : List Value} {y : Int} (p2 : Rep.rel (Za .u64) c Z y) {z : Int × Int} (H : ZIf hi lo y = some z) : Ret Tryz.prog 190 #[(Za .u64).val X, (Za .u64).val Y, (Za .u64).val Z] e c (fun y v' => ∃ r0 M, y = .tuple #[(Za .u64).val r0, (Za .u64).val M] ∧ (Za .u64).rel v' r0 z.1 ∧ (Za .u64).rel v' M z.2) := by
  obtain ⟨rfl, M⟩ := p0; obtain ⟨rfl, r2⟩ := p1; obtain ⟨rfl, r3⟩ := p2; refine ZU (K := 135) (args := [.int .u64 (hi), .int .u64 (lo), .int .u64 (y)]) hv Tryz.func190 rfl rfl zl fun f S => ?_; unfold ZIf at H; refine sr (mw S rfl fun f S => mw S rfl fun f S => oe (Zh fun _ an => sr (mv S rfl fun f S => ov S rfl (Zj S rfl rfl Zfa) fun f S => oe ?_))); rcases Zy (y == ((0 : Int))) with q | q
  · have H := Zw H q; refine ZD S rfl q ?_
    cases H
  have H := Zz H q; refine ZC S rfl q (wp_skip (Zc (an _ _ (Zh fun _ ao => sr (mv S rfl fun f S => mv S rfl fun f S => ov S rfl (Zj S rfl rfl ZHc) fun f S => oe ?_))))); rcases Zy (decide (y ≤ hi)) with r | r
  · have H := Zw H r; refine ZD S rfl r ?_
    cases H
  have H := Zz H r; refine ZC S rfl r (wp_skip (Zc (ao _ _ (Zh fun _ ap => sr (mv S rfl fun f S => ov S rfl (Zj S rfl rfl Zfa) fun f S => oe ?_))))); rcases Zy (hi == ((0 : Int))) with s | s
  · have H := Zw H s; refine ZD S rfl s (Zh fun _ aq => ?_); obtain ⟨ar, aa, H⟩ := Zb H; obtain ⟨au, N, H⟩ := Zb H; refine Zma (fl := #[true, true, true, true, true, true, false, false]) Zka (by kernel_rfl) S ?_; intro ops O F w S; refine rfa O F 0 rfl rfl S (Zr S rfl) fun f S => rfa O F 1 rfl rfl S (Zr S rfl) fun f S => rfa O F 2 rfl rfl S (Zj S rfl rfl (ZRb aa)) fun f S => rfa O F 3 rfl rfl S (Zr S rfl) fun f S => rfa O F 4 rfl rfl S (Zr S rfl) fun f S => rfa O F 5 rfl rfl S (Zj S rfl rfl (ZGc N)) fun f S => go1 O F 6 (nva [0, 1, 2] [3, 4, 5] O rfl rfl S (Zga S rfl) fun f S => ⟨(py S rfl rfl (Zr S rfl) (py S rfl rfl (Zr S rfl) (py S rfl rfl (Zj S rfl rfl (ZGc N)) Zs))), go1 O F 7 (nva [0, 1, 2, 3, 4, 5, 6] [] O rfl rfl S (Zga S rfl) fun f S => ⟨Zs, Z5 O F (Zc (aq _ _ ?_))⟩)⟩); refine wp_ret (ZL ?_); obtain rfl := Zf H; refine ZB S (ZEa rfl (ZE S rfl) (ZE S rfl)) ⟨[.int .u64 (ar)], [.int .u64 (au)], rfl, (Zp (Zef aa)), (Zp (ZKi r2 N))⟩
  have H := Zz H s; refine ZC S rfl s (wp_skip (Zc (ap _ _ (Zh fun _ av => ?_)))); obtain ⟨h, aw, H⟩ := Zb H; refine Zm (mv S rfl fun f S => opc S rfl (Zn S [.int .u64 (y)] Zvk rfl rfl) (Z9l S.vin (show Rep.rel (Za .u64) _ [.int .u64 (y)] y from (Zp r3)) aw) ?_); rintro _ ab f w bd ⟨be, rfl, ax⟩ S; obtain ⟨rfl, bf⟩ := ax; refine ov S rfl (ZKa S rfl (ZOj _)) fun f S => mw S rfl fun f S => Zl (Zc (av _ _ (Zh fun _ ay => ?_))); obtain ⟨a, az, H⟩ := Zb H; refine Zm (mv S rfl fun f S => mv S rfl fun f S => ov S rfl (Zj S rfl rfl (Zzd az)) fun f S => mw S rfl fun f S => Zl (Zc (ay _ _ (Zh fun _ aA => ?_)))); obtain ⟨g, aB, H⟩ := Zb H; refine Zm (mv S rfl fun f S => ov S rfl (Zj S rfl rfl (Zzb aB)) fun f S => mw S rfl fun f S => Zl (Zc (aA _ _ (sr (mv S rfl fun f S => ov S rfl (Zj S rfl rfl Z4e) fun f S => mw S rfl fun f S => oe (Zh fun _ aC => ?_)))))); obtain ⟨i, aD, H⟩ := Zb H; obtain ⟨j, aE, H⟩ := Zb H; refine Zm (mv S rfl fun f S => mv S rfl fun f S => ov S rfl (Zj S rfl rfl (Zzd aD)) fun f S => mv S rfl fun f S => mv S rfl fun f S => ov S rfl (Zj S rfl rfl Zhd) fun f S => ov S rfl (Zj S rfl rfl (Zzb aE)) fun f S => ov S rfl (Zj S rfl rfl ZIe) fun f S => mw S rfl fun f S => Zl ?_); have S := S.fr' (σ' := [(1, .int .u64 (lo)), (2, .int .u64 (a)), (8, .int .u64 (IntKind.u64.wrap h)), (9, .int .u64 (g)), (10, .int .u64 (ZJa .u64 a ((4294967295 : Int)))), (11, .int .u64 (orI .u64 i j))]) rfl
  refine Zc (aC _ _ (Zh fun _ aF => ?_)); obtain ⟨k, aG, H⟩ := Zb H; refine Zm (mv S rfl fun f S => mv S rfl fun f S => ov S rfl (Zj S rfl rfl (Zzd aG)) fun f S => mw S rfl fun f S => Zl (Zc (aF _ _ (Zh fun _ aH => ?_)))); obtain ⟨l, aI, H⟩ := Zb H; refine Zm (mv S rfl fun f S => ov S rfl (Zj S rfl rfl (Zzb aI)) fun f S => mw S rfl fun f S => Zl (Zc (aH _ _ (sr (mv S rfl fun f S => ov S rfl (Zj S rfl rfl Z4e) fun f S => mw S rfl fun f S => oe (Zh fun _ aJ => ?_)))))); obtain ⟨bg, ac, H⟩ := Zb H; refine Zm (mv S rfl fun f S => mv S rfl fun f S => ov S rfl (Zj S rfl rfl (ZRb ac)) fun f S => mw S rfl fun f S => Zl (Zc (aJ _ _ (sr (mv S rfl fun f S => mv S rfl fun f S => mv S rfl fun f S => ov S rfl (Zj S rfl rfl Z2b) fun f S => ov S rfl (Zj S rfl rfl Zhd) fun f S => mw S rfl fun f S => ?_))))); refine oe (Zh fun _ aK => ?_); obtain ⟨aL, aM, aN⟩ := Zb H; refine ZO (fun f w => ∃ (d : Int) (u : Zd), d = aL ∧ Zd.le ab u ∧ St 135 e c [(2, .int .u64 (a)), (8, .int .u64 (IntKind.u64.wrap h)), (9, .int .u64 (g)), (10, .int .u64 (ZJa .u64 a ((4294967295 : Int)))), (11, .int .u64 (orI .u64 i j)), (13, .int .u64 (l)), (14, .int .u64 (ZJa .u64 k ((4294967295 : Int)))), (15, .int .u64 (d))] [] u f w ∧ inR .u64 d) (fun _ ad => ?_) ?_
  · have H := aM; refine wp_block ?_; obtain ⟨bh, aO, ae⟩ := Zb H; refine Zha aO (fun aP f w => ∃ (m : Int) (n : Int) (G : Zd), (m, n) = aP ∧ Zd.le ab G ∧ St 135 e c [(2, .int .u64 (a)), (8, .int .u64 (IntKind.u64.wrap h)), (9, .int .u64 (g)), (10, .int .u64 (ZJa .u64 a ((4294967295 : Int)))), (11, .int .u64 (orI .u64 i j)), (13, .int .u64 (l)), (14, .int .u64 (ZJa .u64 k ((4294967295 : Int)))), (15, .int .u64 (m)), (16, .int .u64 (n))] [] G f w ∧ inR .u64 m ∧ inR .u64 n) ⟨_, _, _, rfl, (leR _), (S.fr' rfl), (Zef ac), (Zta _ _)⟩ ?_; rintro _ f w st ⟨m, n, G, hq, P, S, aQ, bi⟩ H bj aR af; subst hq; refine Zh fun _ aS => Zh fun _ aT => ?_; obtain ⟨aU, aV, aW⟩ := Zb H; refine ZO (fun f w => ∃ (I : Bool) (Q : Zd), I = aU ∧ Zd.le G Q ∧ St 135 e c [(2, .int .u64 (a)), (8, .int .u64 (IntKind.u64.wrap h)), (9, .int .u64 (g)), (10, .int .u64 (ZJa .u64 a ((4294967295 : Int)))), (11, .int .u64 (orI .u64 i j)), (13, .int .u64 (l)), (14, .int .u64 (ZJa .u64 k ((4294967295 : Int)))), (15, .int .u64 (m)), (16, .int .u64 (n)), (78, .bool (I))] [] Q f w) (fun _ ag => ?_) ?_
    · have H := aV; rcases Zy (decide ((4294967296 : Int) ≤ m)) with v | v
      · have H := Zw H v; refine Zm (mv S rfl fun f S => ov S rfl (Zj S rfl rfl Z9a) fun f S => ?_); have S := S.bool (t := 68) rfl v; refine mv S rfl fun f S => opn S rfl rfl rfl rfl fun f S => opn S rfl rfl rfl rfl fun f S => opn S rfl rfl rfl rfl fun f S => opn S rfl rfl rfl rfl fun f S => opn S rfl rfl rfl rfl fun f S => opn S rfl rfl rfl rfl fun f S => opn S rfl rfl rfl rfl fun f S => opn S rfl rfl rfl rfl fun f S => ov S rfl (ZQ S (b := true) rfl rfl) fun f S => Zl ?_; obtain rfl := Zf H; refine Zc (ag _ _ ⟨_, _, rfl, (leR _), (S.fr' rfl)⟩)
      have H := Zz H v; refine Zm (mv S rfl fun f S => ov S rfl (Zj S rfl rfl Z9a) fun f S => ?_); have S := S.bool (t := 68) rfl v; refine mv S rfl fun f S => opy S rfl rfl rfl rfl (Zr S rfl) fun f S => opy S rfl rfl rfl rfl (Zr S rfl) fun f S => opy S rfl rfl rfl rfl (Zj S rfl rfl Z2b) fun f S => opy S rfl rfl rfl rfl (Zr S rfl) fun f S => opy S rfl rfl rfl rfl (Zj S rfl rfl Z2b) fun f S => opy S rfl rfl rfl rfl (Zr S rfl) fun f S => opy S rfl rfl rfl rfl (Zj S rfl rfl Z3b) fun f S => opy S rfl rfl rfl rfl (Zj S rfl rfl Zwa) fun f S => ov S rfl (ZQ S (b := false) rfl rfl) fun f S => Zl ?_; obtain rfl := Zf H; refine Zc (ag _ _ ⟨_, _, rfl, (leR _), (S.fr' rfl)⟩)
    rintro f w ⟨I, Q, hq, R, S⟩; subst hq; have H := aW; refine Zc (aT _ _ ?_); rcases Zy (I) with x | x
    · have H := Zw H x; refine ZD S rfl x (wp_skip (Zc (aS _ _ (wp_block (sr (mv S rfl fun f S => ov S rfl (Zj S rfl rfl Zhd) fun f S => mw S rfl fun f S => oe (sr (mv S rfl fun f S => mv S rfl fun f S => ov S rfl (Zj S rfl rfl Z3b) fun f S => mw S rfl fun f S => ?_)))))))); refine oe (sr (mv S rfl fun f S => ov S rfl (Zj S rfl rfl Z9a) fun f S => oe ?_)); rcases Zy (decide ((4294967296 : Int) ≤ IntKind.u64.wrap (n + g))) with A | A
      · have H := Zw H A; refine ZD S rfl A (wp_exit (Z0c rfl ?_)); obtain rfl := Zf H; have hq := af _ rfl; subst hq; have H := ae; refine ZJ (Zba ?_); obtain rfl := Zf H; refine Zc (ad _ _ ⟨_, _, rfl, (leT (leT (leR _) P) R), (S.fr' rfl), (Zta _ _)⟩)
      have H := Zz H A; refine ZC S rfl A (wp_skip (Zea ?_)); obtain rfl := Zf H; refine aR _ rfl _ _ ⟨_, _, _, rfl, (leT P R), (S.fr' rfl), (Zta _ _), (Zta _ _)⟩
    have H := Zz H x; refine ZC S rfl x (wp_exit (ZJ ?_)); obtain rfl := Zf H; have hq := af _ rfl; subst hq; have H := ae; refine ZJ (Zba ?_); obtain rfl := Zf H; refine Zc (ad _ _ ⟨_, _, rfl, (leT (leT (leR _) P) R), (S.fr' rfl), aQ⟩)
  rintro f w ⟨d, u, hq, bk, S, bm⟩; subst hq; have H := aN; refine Zc (aK _ _ (sr (mv S rfl fun f S => ov S rfl (Zj S rfl rfl Z2b) fun f S => mv S rfl fun f S => ov S rfl (Zj S rfl rfl Z3b) fun f S => mv S rfl fun f S => mv S rfl fun f S => ov S rfl (Zj S rfl rfl Z2b) fun f S => ov S rfl (Zj S rfl rfl Zhd) fun f S => mw S rfl fun f S => oe (Zh fun _ aX => ?_)))); obtain ⟨bn, ah, H⟩ := Zb H; refine Zm (mv S rfl fun f S => mv S rfl fun f S => ov S rfl (Zj S rfl rfl (ZRb ah)) fun f S => mw S rfl fun f S => Zl (Zc (aX _ _ (sr (mv S rfl fun f S => mv S rfl fun f S => mv S rfl fun f S => ov S rfl (Zj S rfl rfl Z2b) fun f S => ov S rfl (Zj S rfl rfl Zhd) fun f S => mw S rfl fun f S => ?_))))); refine oe (Zh fun _ aY => ?_); obtain ⟨aZ, a0, a1⟩ := Zb H; refine ZO (fun f w => ∃ (B : Int) (T : Zd), B = aZ ∧ Zd.le u T ∧ St 135 e c [(2, .int .u64 (a)), (8, .int .u64 (IntKind.u64.wrap h)), (14, .int .u64 (ZJa .u64 k ((4294967295 : Int)))), (15, .int .u64 (d)), (17, .int .u64 (IntKind.u64.wrap ((IntKind.u64.wrap ((IntKind.u64.wrap ((orI .u64 i j) * ((4294967296 : Int)))) + l)) - (IntKind.u64.wrap (d * a))))), (18, .int .u64 (B))] [] T f w ∧ inR .u64 B) (fun _ ai => ?_) ?_
  · have H := a0; refine wp_block ?_; obtain ⟨bo, a2, aj⟩ := Zb H; refine Zha a2 (fun a3 f w => ∃ (o : Int) (p : Int) (J : Zd), (o, p) = a3 ∧ Zd.le u J ∧ St 135 e c [(2, .int .u64 (a)), (8, .int .u64 (IntKind.u64.wrap h)), (9, .int .u64 (g)), (10, .int .u64 (ZJa .u64 a ((4294967295 : Int)))), (14, .int .u64 (ZJa .u64 k ((4294967295 : Int)))), (15, .int .u64 (d)), (16, .int .u64 (o)), (17, .int .u64 (IntKind.u64.wrap ((IntKind.u64.wrap ((IntKind.u64.wrap ((orI .u64 i j) * ((4294967296 : Int)))) + l)) - (IntKind.u64.wrap (d * a))))), (18, .int .u64 (p))] [] J f w ∧ inR .u64 o ∧ inR .u64 p) ⟨_, _, _, rfl, (leR _), (S.fr' rfl), (Zta _ _), (Zef ah)⟩ ?_; rintro _ f w st ⟨o, p, J, hq, U, S, bp, a4⟩ H bq a5 ak; subst hq; refine Zh fun _ a6 => Zh fun _ a7 => ?_; obtain ⟨a8, a9, ba⟩ := Zb H; refine ZO (fun f w => ∃ (L : Bool) (V : Zd), L = a8 ∧ Zd.le J V ∧ St 135 e c [(2, .int .u64 (a)), (8, .int .u64 (IntKind.u64.wrap h)), (9, .int .u64 (g)), (10, .int .u64 (ZJa .u64 a ((4294967295 : Int)))), (14, .int .u64 (ZJa .u64 k ((4294967295 : Int)))), (15, .int .u64 (d)), (16, .int .u64 (o)), (17, .int .u64 (IntKind.u64.wrap ((IntKind.u64.wrap ((IntKind.u64.wrap ((orI .u64 i j) * ((4294967296 : Int)))) + l)) - (IntKind.u64.wrap (d * a))))), (18, .int .u64 (p)), (113, .bool (L))] [] V f w) (fun _ al => ?_) ?_
    · have H := a9; rcases Zy (decide ((4294967296 : Int) ≤ p)) with C | C
      · have H := Zw H C; refine Zm (mv S rfl fun f S => ov S rfl (Zj S rfl rfl Z9a) fun f S => ?_); have S := S.bool (t := 103) rfl C; refine mv S rfl fun f S => opn S rfl rfl rfl rfl fun f S => opn S rfl rfl rfl rfl fun f S => opn S rfl rfl rfl rfl fun f S => opn S rfl rfl rfl rfl fun f S => opn S rfl rfl rfl rfl fun f S => opn S rfl rfl rfl rfl fun f S => opn S rfl rfl rfl rfl fun f S => opn S rfl rfl rfl rfl fun f S => ov S rfl (ZQ S (b := true) rfl rfl) fun f S => Zl ?_; obtain rfl := Zf H; refine Zc (al _ _ ⟨_, _, rfl, (leR _), (S.fr' rfl)⟩)
      have H := Zz H C; refine Zm (mv S rfl fun f S => ov S rfl (Zj S rfl rfl Z9a) fun f S => ?_); have S := S.bool (t := 103) rfl C; refine mv S rfl fun f S => opy S rfl rfl rfl rfl (Zr S rfl) fun f S => opy S rfl rfl rfl rfl (Zr S rfl) fun f S => opy S rfl rfl rfl rfl (Zj S rfl rfl Z2b) fun f S => opy S rfl rfl rfl rfl (Zr S rfl) fun f S => opy S rfl rfl rfl rfl (Zj S rfl rfl Z2b) fun f S => opy S rfl rfl rfl rfl (Zr S rfl) fun f S => opy S rfl rfl rfl rfl (Zj S rfl rfl Z3b) fun f S => opy S rfl rfl rfl rfl (Zj S rfl rfl Zwa) fun f S => ov S rfl (ZQ S (b := false) rfl rfl) fun f S => Zl ?_; obtain rfl := Zf H; refine Zc (al _ _ ⟨_, _, rfl, (leR _), (S.fr' rfl)⟩)
    rintro f w ⟨L, V, hq, W, S⟩; subst hq; have H := ba; refine Zc (a7 _ _ ?_); rcases Zy (L) with D | D
    · have H := Zw H D; refine ZD S rfl D (wp_skip (Zc (a6 _ _ (wp_block (sr (mv S rfl fun f S => ov S rfl (Zj S rfl rfl Zhd) fun f S => mw S rfl fun f S => oe (sr (mv S rfl fun f S => mv S rfl fun f S => ov S rfl (Zj S rfl rfl Z3b) fun f S => mw S rfl fun f S => ?_)))))))); refine oe (sr (mv S rfl fun f S => ov S rfl (Zj S rfl rfl Z9a) fun f S => oe ?_)); rcases Zy (decide ((4294967296 : Int) ≤ IntKind.u64.wrap (o + g))) with E | E
      · have H := Zw H E; refine ZD S rfl E (wp_exit (Z0c rfl ?_)); obtain rfl := Zf H; have hq := ak _ rfl; subst hq; have H := aj; refine ZJ (Zba ?_); obtain rfl := Zf H; refine Zc (ai _ _ ⟨_, _, rfl, (leT (leT (leR _) U) W), (S.fr' rfl), (Zta _ _)⟩)
      have H := Zz H E; refine ZC S rfl E (wp_skip (Zea ?_)); obtain rfl := Zf H; refine a5 _ rfl _ _ ⟨_, _, _, rfl, (leT U W), (S.fr' rfl), (Zta _ _), (Zta _ _)⟩
    have H := Zz H D; refine ZC S rfl D (wp_exit (ZJ ?_)); obtain rfl := Zf H; have hq := ak _ rfl; subst hq; have H := aj; refine ZJ (Zba ?_); obtain rfl := Zf H; refine Zc (ai _ _ ⟨_, _, rfl, (leT (leT (leR _) U) W), (S.fr' rfl), a4⟩)
  rintro f w ⟨B, T, hq, br, S, bs⟩; subst hq; have H := a1; refine Zc (aY _ _ (Zh fun _ bb => ?_)); obtain ⟨bc, am, H⟩ := Zb H; refine Zm (mv S rfl fun f S => ov S rfl (Zj S rfl rfl Z2b) fun f S => mv S rfl fun f S => ov S rfl (Zj S rfl rfl Z3b) fun f S => mv S rfl fun f S => ov S rfl (Zj S rfl rfl Z2b) fun f S => mv S rfl fun f S => ov S rfl (Zj S rfl rfl Z3b) fun f S => mv S rfl fun f S => mv S rfl fun f S => ov S rfl (Zj S rfl rfl Z2b) fun f S => ov S rfl (Zj S rfl rfl Zhd) fun f S => mv S rfl fun f S => ?_); refine ov S rfl (Zj S rfl rfl (Zzb am)) fun f S => mw S rfl fun f S => mw S rfl fun f S => Zl (Zc (bb _ _ (wp_ret ?_))); obtain rfl := Zf H; refine ZB S (ZEa rfl (ZE S rfl) (ZE S rfl)) ⟨[.int .u64 (IntKind.u64.wrap ((IntKind.u64.wrap (d * ((4294967296 : Int)))) + B))], [.int .u64 (bc)], rfl, (Zp (Zta _ _)), (Zp (ZMd (Zta _ _) am))⟩
theorem ZVl {b : World} {a : Zd} (hv : VIn a b) {c : List Value} {hi : Int} (h : Rep.rel (Za .u64) a c hi) {d : List Value} {lo : Int} (i : Rep.rel (Za .u64) a d lo) {e : List Value} {y : Int} (j : Rep.rel (Za .u64) a e y) {z : Int × Int} (hm : Zvd hi lo y = some z) :
    Ret Tryz.prog 190 #[(Za .u64).val c, (Za .u64).val d, (Za .u64).val e] b a (fun y v' => ∃ f g, y = Value.tuple #[(Za .u64).val f, (Za .u64).val g] ∧ (Za .u64).rel v' f z.1 ∧ (Za .u64).rel v' g z.2) :=
  div64_w hv h i j (Zro hm)
theorem Zep {E : World} {d : Zd} (hv : VIn d E) {R : List Value} {a : Nat} (g : Rep.rel ZA d R a) {T : List Value} {n : Int} (p1 : Rep.rel (Za .u64) d T n) {z : Nat × Int} (H : Zyf a n = some z) : Ret Tryz.prog 167 #[ZA.val R, (Za .u64).val T] E d (fun y v' => ∃ U V, y = .tuple #[ZA.val U, (Za .u64).val V] ∧ ZA.rel v' U z.1 ∧ (Za .u64).rel v' V z.2) := by
  obtain ⟨W, X, Y, rfl⟩ := ZZ g; obtain ⟨rfl, r4⟩ := p1; refine ZU (K := 35) (args := [.slice W X Y, .int .u64 (n)]) hv Tryz.func167 rfl rfl zl fun f S => ?_; unfold Zyf at H; refine sr (mw S rfl fun f S => mw S rfl fun f S => oe (Zh fun _ ah => ?_)); obtain ⟨y9, F, H⟩ := Zb H; refine Zm (mv S rfl fun f S => ov S rfl (ZF S (Zu g) rfl rfl ZR) fun f S => ?_); obtain ⟨Z, aa⟩ : ∃ c : List Value, c = (List.replicate ((((Zi 18446744073709551616 a)).length : Int)).toNat [.int .u64 ((0 : Int))]).flatten := ⟨_, rfl⟩; obtain ⟨ai, w, aj, S⟩ := ZVb ZCc S (l := (((Zi 18446744073709551616 a)).length : Int)) (c := (((Zi 18446744073709551616 a)).length : Int)) (Z8 F).1 (Z8 F).2.1 (Z8 F).2.2.1 (Z8 F).2.2.2 aa; have ak : Rep.rels (Za .u64) d Z (List.replicate ((((Zi 18446744073709551616 a)).length : Int)).toNat ((0 : Int))) := by rw [aa]; exact ZPb (show Rep.rel (Za .u64) _ [.int .u64 ((0 : Int))] _ from (Zp (by decide))) _
  refine Zna wn rfl zl (aj rfl rfl) S fun f S => mw S rfl fun f S => Zl (Zc (ah _ _ (sr (mw S rfl fun f S => oe (Zh fun _ al => Zh fun _ am => ?_))))); obtain ⟨aV, ab, H⟩ := Zb H; refine Zm (mv S rfl fun f S => ov S rfl (ZF S (Zu g) rfl rfl ZR) fun f S => ov S rfl (Zj S rfl rfl (ZAa ab)) fun f S => mw S rfl fun f S => Zl (Zc (am _ _ ?_))); obtain ⟨an, ao, ap⟩ := Zb H; refine ZO (fun f w => ∃ (o : (List Int)) (s : Int) (t : Option Nat) (p : Nat) (u : Nat) (L : List Value) (G : Zd), (o, s) = an ∧ Zd.le d G ∧ St 35 E d [(6, .slice (mkA t) (p) u), (7, .int .u64 (s))] [Loc.own t 211 1 (p) u L] G f w ∧ Rep.rels (Za .u64) G L o ∧ p = o.length ∧ inR .u64 s) (fun _ aq => ?_) ?_
  · have H := ao; refine wp_block ?_; obtain ⟨aW, ar, au⟩ := Zb H; refine Zha ar (fun av f w => ∃ (q : (List Int)) (h : Int) (b : Int) (I : Option Nat) (k : Nat) (v : Nat) (e : List Value) (J : Zd), (q, h, b) = av ∧ Zd.le d J ∧ St 35 E d [(0, .slice W X Y), (1, .int .u64 (n)), (6, .slice (mkA I) (k) v), (7, .int .u64 (h)), (8, .int .i64 (b))] [Loc.own I 211 1 (k) v e] J f w ∧ Rep.rels (Za .u64) J e q ∧ k = q.length ∧ inR .u64 h ∧ inR .i64 b) ⟨_, _, _, some ai, ((((Zi 18446744073709551616 a)).length : Int)).toNat, ((((Zi 18446744073709551616 a)).length : Int)).toNat, Z, _, rfl, (leR _), (S.fr' rfl), ak, (Zwb (x := (0 : Int))), (by decide), (Z0 ab).2⟩ ?_; rintro _ f w st ⟨q, h, b, I, k, v, e, J, hq, M, S, B, C, ac, aX⟩ H aY aw ax; subst hq; refine Zh fun _ ay => sr (mv S rfl fun f S => ov S rfl (Zj S rfl rfl Z9a) fun f S => oe ?_); rcases Zy (decide ((0 : Int) ≤ b)) with D | D
    · have H := Zw H D; refine ZD S rfl D (wp_skip (Zc (ay _ _ (Zh fun _ az => wp_block ?_)))); obtain ⟨N, O, H⟩ := Zb H; obtain ⟨m, aA, H⟩ := Zb H; obtain ⟨aZ, r, H⟩ := Zb H; refine Zm (mv S rfl fun f S => mv S rfl fun f S => mv S rfl fun f S => mv S rfl fun f S => mv S rfl fun f S => ?_); have g := Zo M g; obtain ⟨_, a0, a1, a2, rfl, P, aB⟩ := Zda g (Zk O).2.1; obtain ⟨rfl, aC⟩ := aB; refine ov S rfl (ZS S rfl rfl ZR (Zk O).1 (ltI (Zu g) (Zk O).2.2.1)) fun f S => ov S rfl (Z2 S rfl Zra (S.view P)) fun f S => mv S rfl fun f S => opc S rfl (Zn S [.int .u64 (h), .int .u64 (N), .int .u64 (n)] ZGl rfl rfl) (ZVl S.vin (show Rep.rel (Za .u64) _ [.int .u64 (h)] h from (Zp ac)) (show Rep.rel (Za .u64) _ [.int .u64 (N)] N from (Zp aC)) (show Rep.rel (Za .u64) _ [.int .u64 (n)] n from (Zp r4)) aA) ?_; rintro _ ad f w Q ⟨a3, a4, rfl, aD, aE⟩ S; have B := ZP Q B; have P := Atm Q P; obtain ⟨rfl, aF⟩ := aD; obtain ⟨rfl, aG⟩ := aE; refine mv S rfl fun f S => ov S rfl (ZM S rfl rfl) fun f S => ov S rfl (ZM S rfl rfl) fun f S => ?_; obtain ⟨aH, rfl⟩ := ZNb S (j := 0) rfl (ZSb C (Zk r).2.2.2); have ae := Zya B (Zk r).2.1; obtain ⟨a5, aI⟩ : ∃ c, (List.take (Za .u64).n (List.drop ((b).toNat * (Za .u64).n) e)) = c := ⟨_, rfl⟩
      rw [aI] at ae; obtain ⟨rfl, a6⟩ := ae; refine ov S rfl (ZS S rfl rfl ZR (Zk r).1 (ltI C (Zk r).2.2.1)) fun f S => ?_; obtain ⟨w, aJ, S⟩ := ZLb S Zra (off := 0 + (b).toNat * 1) (z := .int .u64 (m.1)) (cs := [.int .u64 (m.1)]) (Zxb rfl) rfl (i := 0) rfl (ZHb S (j := 0) rfl (ltN C (Zk r).2.2.2)) (by first | rfl | simp [ZPa]); have aK : Rep.rels (Za .u64) ad (List.take (0 + (b).toNat * 1) e ++ [Value.int IntKind.u64 (m.1)] ++ List.drop (0 + (b).toNat * 1 + 1) e) (q.set (b).toNat m.1) := ZAb B (Zk r).2.2.2 (show Rep.rel (Za .u64) ad [.int .u64 (m.1)] _ from (Zp aF)) rfl rfl; have aL : k = (q.set (b).toNat m.1).length := ZCb C; refine ZY wn rfl (aJ rfl rfl) (mw S rfl fun f S => Zl (Zea (Zc (az _ _ ?_)))); obtain ⟨a7, af, H⟩ := Zb H; refine Zm (mv S rfl fun f S => ov S rfl (Zj S rfl rfl (ZAa af)) fun f S => mw S rfl fun f S => Zl ?_); obtain rfl := Zf H; refine aw _ rfl _ _ ⟨_, _, _, some aH, k, v, (List.take (0 + (b).toNat * 1) e ++ [Value.int IntKind.u64 (m.1)] ++ List.drop (0 + (b).toNat * 1 + 1) e), _, rfl, (leT M Q), (S.fr' rfl), aK, aL, aG, (Z0 af).2⟩
    have H := Zz H D; refine ZC S rfl D (wp_exit (ZJ ?_)); obtain rfl := Zf H; have hq := ax _ rfl; subst hq; have H := au; refine ZJ (Zba ?_); obtain rfl := Zf H; refine Zc (aq _ _ ⟨_, _, I, k, v, e, _, rfl, (leT (leR _) M), (S.fr' rfl), B, C, ac⟩)
  rintro f w ⟨o, s, t, p, u, L, G, hq, a8, S, aM, aN, aO⟩; subst hq; have H := ap; refine Zc (al _ _ (Zh fun _ aP => ?_)); obtain ⟨a9, aQ, H⟩ := Zb H; refine Zm (mv S rfl fun f S => ?_); obtain ⟨ba, bb, S, aR⟩ := S.pubSlice (i := 0) (A := (Za .u64)) (l := o) (ℓ' := []) rfl rfl aN aM rfl; refine opc S rfl (Zn S [.slice (mkA t) (p) u] Zjd rfl rfl) (Zrd S.vin (show Rep.rel (Zt (Za .u64)) _ [.slice (mkA t) (p) u] o from aR) aQ) ?_; rintro _ bc f w bd ⟨be, rfl, ag⟩ S; obtain ⟨aS, aT, aU, rfl⟩ := ZZ ag; refine mv S rfl fun f S => mw S rfl fun f S => mw S rfl fun f S => Zl (Zc (aP _ _ (wp_ret ?_))); obtain rfl := Zf H; refine ZB S (ZEa rfl (ZE S rfl) (ZE S rfl)) ⟨[.slice aS aT aU], [.int .u64 (s)], rfl, ag, (Zp aO)⟩
theorem Z5j {c : World} {b : Zd} (hv : VIn b c) {d : List Value} {a : Nat} (i : Rep.rel ZA b d a) {e : List Value} {n : Int} (f : Rep.rel (Za .u64) b e n) {z : Nat × Int} (hm : ZQd a n = some z) :
    Ret Tryz.prog 167 #[ZA.val d, (Za .u64).val e] c b (fun y v' => ∃ g h, y = Value.tuple #[ZA.val g, (Za .u64).val h] ∧ ZA.rel v' g z.1 ∧ (Za .u64).rel v' h z.2) :=
  Zep hv i f (ZOo f.2 hm)
theorem cmp_w {m : World} {e : Zd} (hv : VIn e m) {A : List Value} {a : (List Int)} (c : Rep.rel (Zt (Za .u64)) e A a) {B : List Value} {b : (List Int)} (d : Rep.rel (Zt (Za .u64)) e B b) {z : Int} (H : Z6g a b = some z) : Ret Tryz.prog 87 #[(Zt (Za .u64)).val A, (Zt (Za .u64)).val B] m e (fun y v' => ∃ C, y = (Za .i64).val C ∧ (Za .i64).rel v' C z) := by
  obtain ⟨D, E, G, rfl⟩ := Zqa c; obtain ⟨I, J, L, rfl⟩ := Zqa d; refine ZU (K := 41) (args := [.slice D (E) G, .slice I (J) L]) hv Tryz.func87 rfl rfl zl fun f S => ?_; unfold Z6g at H; refine sr (mw S rfl fun f S => oe (Zh fun _ P => sr (mv S rfl fun f S => ov S rfl (ZF S (Zu c) rfl rfl ZR) fun f S => mv S rfl fun f S => ov S rfl (ZF S (Zu d) rfl rfl ZR) fun f S => ov S rfl (Zj S rfl rfl Zpb) fun f S => oe ?_))); rcases Zy (((a.length : Int)) != ((b.length : Int))) with g | g
  · have H := Zw H g; refine ZD S rfl g (Zh fun _ Q => sr (mv S rfl fun f S => ov S rfl (ZF S (Zu c) rfl rfl ZR) fun f S => mv S rfl fun f S => ov S rfl (ZF S (Zu d) rfl rfl ZR) fun f S => ov S rfl (Zj S rfl rfl Z4) fun f S => oe ?_)); rcases Zy (decide ((a.length : Int) < (b.length : Int))) with h | h
    · have H := Zw H h; refine ZD S rfl h (sr (mw S rfl fun f S => oe (wp_ret (ZL (ZL ?_))))); obtain rfl := Zf H; refine ZB S (ZK rfl (ZE S rfl)) ⟨[.int .i64 ((-1 : Int))], rfl, (Zp (by decide))⟩
    have H := Zz H h; refine ZC S rfl h (wp_skip (Zc (Q _ _ (sr (mw S rfl fun f S => oe (wp_ret (ZL ?_))))))); obtain rfl := Zf H; refine ZB S (ZK rfl (ZE S rfl)) ⟨[.int .i64 ((1 : Int))], rfl, (Zp (by decide))⟩
  have H := Zz H g; refine ZC S rfl g (wp_skip (Zc (P _ _ (Zh fun _ R => Zh fun _ T => ?_)))); obtain ⟨ar, M, H⟩ := Zb H; refine Zm (mv S rfl fun f S => ov S rfl (ZF S (Zu c) rfl rfl ZR) fun f S => ov S rfl (Zj S rfl rfl (ZAa M)) fun f S => mw S rfl fun f S => Zl (Zc (T _ _ ?_))); obtain ⟨U, V, o⟩ := Zb H; refine ZO (fun f w => ∃  (p : Zd), (.inl (())) = U ∧ Zd.le e p ∧ St 41 m e [] [] p f w) (fun _ W => ?_) ?_
  · have H := V; refine wp_block ?_; obtain ⟨au, X, q⟩ := Zb H; refine Zha X (fun Y f w => ∃ (i : Int) (r : Zd), i = Y ∧ Zd.le e r ∧ St 41 m e [(0, .slice D (E) G), (1, .slice I (J) L), (5, .int .i64 (i))] [] r f w ∧ inR .i64 i) ⟨_, _, rfl, (leR _), (S.fr' rfl), (Z0 M).2⟩ ?_; rintro _ f w st ⟨i, r, hq, n, S, av⟩ H aw Z s; subst hq; refine Zh fun _ aa => sr (mv S rfl fun f S => ov S rfl (Zj S rfl rfl Z9a) fun f S => oe ?_); rcases Zy (decide ((0 : Int) ≤ i)) with j | j
    · have H := Zw H j; refine ZD S rfl j (wp_skip (Zc (aa _ _ (Zh fun _ ab => wp_block (Zh fun _ ac => Zh fun _ ad => ?_))))); obtain ⟨ae, t, H⟩ := Zb H; obtain ⟨af, u, H⟩ := Zb H; refine Zma (fl := #[true, true, true, true, true, true, true, true, true]) Zka (by kernel_rfl) S ?_; intro ops O F w S; refine rfa O F 0 rfl rfl S (Zr S rfl) fun f S => rfa O F 1 rfl rfl S (Zr S rfl) fun f S => ?_; have c := Zo n c; obtain ⟨_, ax, ay, az, rfl, ag, ah⟩ := Zda c (Zk t).2.1; obtain ⟨rfl, aA⟩ := ah; refine rfa O F 2 rfl rfl S (ZS S rfl rfl ZR (Zk t).1 (ltI (Zu c) (Zk t).2.2.1)) fun f S => rfa O F 3 rfl rfl S (Z2 S rfl Zra (S.view ag)) fun f S => rfa O F 4 rfl rfl S (Zr S rfl) fun f S => rfa O F 5 rfl rfl S (Zr S rfl) fun f S => ?_; have d := Zo n d; obtain ⟨_, aB, aC, aD, rfl, ai, aj⟩ := Zda d (Zk u).2.1; obtain ⟨rfl, aE⟩ := aj; refine rfa O F 6 rfl rfl S (ZS S rfl rfl ZR (Zk u).1 (ltI (Zu d) (Zk u).2.2.1)) fun f S => rfa O F 7 rfl rfl S (Z2 S rfl Zra (S.view ai)) fun f S => rfa O F 8 rfl rfl S (Zj S rfl rfl Z4) fun f S => Z5 O F (Zc (ad _ _ ?_)); rcases Zy (decide (ae < af)) with k | k
      · have H := Zw H k; refine ZD S rfl k (sr (mw S rfl fun f S => oe (wp_ret (ZL (ZCa (ZL ?_)))))); obtain rfl := Zf H; have hq := s _ rfl; subst hq; have H := q; refine ZL (ZCa ?_); obtain rfl := Zf H; have H := o; refine ZL (ZL ?_); obtain rfl := Zf H; refine ZB S (ZK rfl (ZE S rfl)) ⟨[.int .i64 ((-1 : Int))], rfl, (Zp (by decide))⟩
      have H := Zz H k; refine ZC S rfl k (wp_skip (Zc (ac _ _ (Zh fun _ ak => ?_)))); obtain ⟨al, v, H⟩ := Zb H; obtain ⟨am, x, H⟩ := Zb H; refine Zma (fl := #[true, true, true, true, true, true, true, true, true]) Zka (by kernel_rfl) S ?_; intro ops O F w S; refine rfa O F 0 rfl rfl S (Zr S rfl) fun f S => rfa O F 1 rfl rfl S (Zr S rfl) fun f S => ?_; obtain ⟨aF, an, ao⟩ := Zqc c (Zk v).2.1; obtain ⟨rfl, aG⟩ := ao; refine rfa O F 2 rfl rfl S (ZS S rfl rfl ZR (Zk v).1 (ltI (Zu c) (Zk v).2.2.1)) fun f S => rfa O F 3 rfl rfl S (Z2 S rfl Zra (S.view an)) fun f S => rfa O F 4 rfl rfl S (Zr S rfl) fun f S => rfa O F 5 rfl rfl S (Zr S rfl) fun f S => ?_; obtain ⟨aH, ap, aq⟩ := Zqc d (Zk x).2.1; obtain ⟨rfl, aI⟩ := aq; refine rfa O F 6 rfl rfl S (ZS S rfl rfl ZR (Zk x).1 (ltI (Zu d) (Zk x).2.2.1)) fun f S => rfa O F 7 rfl rfl S (Z2 S rfl Zra (S.view ap)) fun f S => rfa O F 8 rfl rfl S (Zj S rfl rfl Zwa) fun f S => Z5 O F (Zc (ak _ _ ?_)); rcases Zy (decide (am < al)) with l | l
      · have H := Zw H l; refine ZD S rfl l (sr (mw S rfl fun f S => oe (wp_ret (ZCa (ZL ?_))))); obtain rfl := Zf H; have hq := s _ rfl; subst hq; have H := q; refine ZL (ZCa ?_); obtain rfl := Zf H; have H := o; refine ZL (ZL ?_); obtain rfl := Zf H; refine ZB S (ZK rfl (ZE S rfl)) ⟨[.int .i64 ((1 : Int))], rfl, (Zp (by decide))⟩
      have H := Zz H l; refine ZC S rfl l (wp_skip (Zea (Zc (ab _ _ ?_)))); obtain ⟨aJ, N, H⟩ := Zb H; refine Zm (mv S rfl fun f S => ov S rfl (Zj S rfl rfl (ZAa N)) fun f S => mw S rfl fun f S => Zl ?_); obtain rfl := Zf H; refine Z _ rfl _ _ ⟨_, _, rfl, n, (S.fr' rfl), (Z0 N).2⟩
    have H := Zz H j; refine ZC S rfl j (wp_exit (ZJ ?_)); obtain rfl := Zf H; have hq := s _ rfl; subst hq; have H := q; refine ZJ (Zba ?_); obtain rfl := Zf H; refine Zc (W _ _ ⟨_, rfl, (leT (leR _) n), (S.fr' rfl)⟩)
  rintro f w ⟨p, hq, aK, S⟩; subst hq; have H := o; refine Zc (R _ _ (sr (mw S rfl fun f S => oe (wp_ret ?_)))); obtain rfl := Zf H; refine ZB S (ZK rfl (ZE S rfl)) ⟨[.int .i64 ((0 : Int))], rfl, (Zp (by decide))⟩
theorem ZPe {d : World} {c : Zd} (hv : VIn c d) {e : List Value} {a : Nat} (f : Rep.rel ZA c e a) {g : List Value} {b : Nat} (h : Rep.rel ZA c g b) {z : Int} (hm : Ztd a b = some z) :
    Ret Tryz.prog 87 #[ZA.val e, ZA.val g] d c (fun y v' => ∃ i, y = (Za .i64).val i ∧ (Za .i64).rel v' i z) :=
  cmp_w hv f h ((cmp_eq (ZEl f) (ZEl h)).trans hm)
theorem mul64_w {e : World} {a : Zd} (hv : VIn a e) {g : List Value} {x : Int} (l : Rep.rel (Za .u64) a g x) {h : List Value} {y : Int} (m : Rep.rel (Za .u64) a h y) {z : Int × Int} (H : ZHf x y = some z) : Ret Tryz.prog 147 #[(Za .u64).val g, (Za .u64).val h] e a (fun y v' => ∃ i c, y = .tuple #[(Za .u64).val i, (Za .u64).val c] ∧ (Za .u64).rel v' i z.1 ∧ (Za .u64).rel v' c z.2) := by
  obtain ⟨rfl, c⟩ := l; obtain ⟨rfl, B⟩ := m; refine ZU (K := 51) (args := [.int .u64 (x), .int .u64 (y)]) hv Tryz.func147 rfl rfl zl fun f S => ?_; unfold ZHf at H; refine sr (mw S rfl fun f S => mw S rfl fun f S => oe (sr (mv S rfl fun f S => ov S rfl (Zj S rfl rfl Z4e) fun f S => mw S rfl fun f S => oe (Zh fun _ n => ?_)))); obtain ⟨b, o, H⟩ := Zb H; refine Zm (mv S rfl fun f S => ov S rfl (Zj S rfl rfl (Zzb o)) fun f S => mw S rfl fun f S => Zl (Zc (n _ _ (sr (mv S rfl fun f S => ov S rfl (Zj S rfl rfl Z4e) fun f S => mw S rfl fun f S => oe (Zh fun _ p => ?_)))))); obtain ⟨d, q, H⟩ := Zb H; refine Zm (mv S rfl fun f S => ov S rfl (Zj S rfl rfl (Zzb q)) fun f S => mw S rfl fun f S => Zl (Zc (p _ _ (sr (mv S rfl fun f S => mv S rfl fun f S => ov S rfl (Zj S rfl rfl Z2b) fun f S => mw S rfl fun f S => oe (Zh fun _ r => ?_)))))); obtain ⟨s, t, H⟩ := Zb H; refine Zm (mv S rfl fun f S => mv S rfl fun f S => ov S rfl (Zj S rfl rfl Z2b) fun f S => mv S rfl fun f S => ov S rfl (Zj S rfl rfl (Zzb t)) fun f S => ov S rfl (Zj S rfl rfl Z3b) fun f S => mw S rfl fun f S => Zl ?_); have S := S.fr' (σ' := [(0, .int .u64 (x)), (1, .int .u64 (y)), (6, .int .u64 (ZJa .u64 x ((4294967295 : Int)))), (7, .int .u64 (b)), (9, .int .u64 (d)), (11, .int .u64 (IntKind.u64.wrap ((IntKind.u64.wrap (b * (ZJa .u64 y ((4294967295 : Int))))) + s)))]) rfl
  refine Zc (r _ _ (sr (mv S rfl fun f S => ov S rfl (Zj S rfl rfl Z4e) fun f S => mw S rfl fun f S => oe (Zh fun _ u => ?_)))); obtain ⟨j, v, H⟩ := Zb H; refine Zm (mv S rfl fun f S => ov S rfl (Zj S rfl rfl (Zzb v)) fun f S => mw S rfl fun f S => Zl (Zc (u _ _ (sr (mv S rfl fun f S => mv S rfl fun f S => mv S rfl fun f S => ov S rfl (Zj S rfl rfl Z2b) fun f S => ov S rfl (Zj S rfl rfl Z3b) fun f S => mw S rfl fun f S => oe ?_))))); refine Zh fun _ w => ?_; obtain ⟨k, A, H⟩ := Zb H; refine Zm (mv S rfl fun f S => mv S rfl fun f S => ov S rfl (Zj S rfl rfl Z2b) fun f S => mv S rfl fun f S => ov S rfl (Zj S rfl rfl Z3b) fun f S => mv S rfl fun f S => ov S rfl (Zj S rfl rfl (Zzb A)) fun f S => ov S rfl (Zj S rfl rfl Z3b) fun f S => mw S rfl fun f S => Zl (Zc (w _ _ (sr (mv S rfl fun f S => ?_))))); refine mv S rfl fun f S => ov S rfl (Zj S rfl rfl Z2b) fun f S => mw S rfl fun f S => ?_; have S := S.fr' (σ' := [(4, .int .u64 (IntKind.u64.wrap ((IntKind.u64.wrap ((IntKind.u64.wrap (b * d)) + j)) + k))), (5, .int .u64 (IntKind.u64.wrap (x * y)))]) rfl; refine oe (wp_ret ?_); obtain rfl := Zf H; refine ZB S (ZEa rfl (ZE S rfl) (ZE S rfl)) ⟨[.int .u64 (IntKind.u64.wrap ((IntKind.u64.wrap ((IntKind.u64.wrap (b * d)) + j)) + k))], [.int .u64 (IntKind.u64.wrap (x * y))], rfl, (Zp (Zta _ _)), (Zp (Zta _ _))⟩
theorem Zzj {b : World} {a : Zd} (hv : VIn a b) {c : List Value} {x : Int} (g : Rep.rel (Za .u64) a c x) {d : List Value} {y : Int} (h : Rep.rel (Za .u64) a d y) {z : Int × Int} (hm : Zgd x y = some z) :
    Ret Tryz.prog 147 #[(Za .u64).val c, (Za .u64).val d] b a (fun y v' => ∃ e f, y = Value.tuple #[(Za .u64).val e, (Za .u64).val f] ∧ (Za .u64).rel v' e z.1 ∧ (Za .u64).rel v' f z.2) :=
  mul64_w hv g h (Zgm hm)
theorem take_w {R : World} {o : Zd} (hv : VIn o R) {a off0 g C : Nat} {E : TypeId} {pre0 cs0 post0 : List Value} {u : (List Int)} (bf : R.heap[a]? = some (.cells (pre0 ++ cs0 ++ post0).toArray E (0, 0))) (aG : off0 = pre0.length) (bg : o a = none) (au : g = u.length) (bh : g ≤ C ∧ C ≤ maxLen) (r : Rep.rels (Za .u64) o cs0 u) {c1 : List Value} {v : Nat} (D : Rep.rel ZA o c1 v) {c2 : List Value} {q : Int} (p2 : Rep.rel (Za .u64) o c2 q) {z : Bool × (List Int)} (H : ZFf u v q = some z) : RetL Tryz.prog 197 #[.slice (some ⟨a, off0, none⟩) g C, ZA.val c1, (Za .u64).val c2] R o [a] (fun y v' w' => (∃ r0, y = Z6.val r0 ∧ Z6.rel v' r0 z.1) ∧ v' a = none ∧ ∃ cs, w'.heap[a]? = some (.cells (pre0 ++ cs ++ post0).toArray E (0, 0)) ∧ g = z.2.length ∧ Rep.rels (Za .u64) v' cs z.2) := by
  obtain ⟨q1, V, W, rfl⟩ := ZZ D; obtain ⟨rfl, r4⟩ := p2; refine ZYj (K := 79) (args := [.slice (some ⟨a, off0, none⟩) (g) C, .slice q1 V W, .int .u64 (q)]) hv bf bg Tryz.func197 rfl rfl zl fun f S => ?_; unfold ZFf at H; refine sr (mw S rfl fun f S => oe (Zh fun _ bi => ?_)); obtain ⟨J, bj, H⟩ := Zb H; obtain ⟨cA, av, H⟩ := Zb H; refine Zm (mv S rfl fun f S => ov S rfl (ZF S (Zu D) rfl rfl ZR) fun f S => ov S rfl (Zj S rfl rfl (Z7 bj)) fun f S => ?_); obtain ⟨aH, aQ⟩ : ∃ c : List Value, c = (List.replicate (J).toNat [.int .u64 ((0 : Int))]).flatten := ⟨_, rfl⟩; obtain ⟨aR, w, bk, S⟩ := ZVb ZCc S (l := J) (c := J) (Z8 av).1 (Z8 av).2.1 (Z8 av).2.2.1 (Z8 av).2.2.2 aQ; have bm : Rep.rels (Za .u64) o aH (List.replicate (J).toNat ((0 : Int))) := by rw [aQ]; exact ZPb (show Rep.rel (Za .u64) _ [.int .u64 ((0 : Int))] _ from (Zp (by decide))) _
  refine Zna wn rfl zl (bk rfl rfl) S fun f S => mw S rfl fun f S => Zl (Zc (bi _ _ (sr (mw S rfl fun f S => oe (Zh fun _ bn => sr (mv S rfl fun f S => ov S rfl (ZF S (Zu D) rfl rfl ZR) fun f S => mv S rfl fun f S => oe ?_)))))); obtain ⟨bo, bp, bq⟩ := Zb H; refine ZO (fun f w => ∃ (L : (List Int)) (b : Int) (aI : Option Nat) (s : Nat) (G : Nat) (h : List Value) (X : Zd), (L, b) = bo ∧ Zd.le o X ∧ St 79 ⟨R, [a]⟩ o [(0, .slice (some ⟨a, off0, none⟩) (g) C), (1, .slice q1 V W), (7, .slice (mkA aI) (s) G), (8, .int .u64 (b))] [Loc.box a E (pre0 ++ cs0 ++ post0), Loc.own aI 211 1 (s) G h] X f w ∧ Rep.rels (Za .u64) X h L ∧ s = L.length ∧ inR .u64 b) (fun _ br => ?_) ?_
  · have H := bp; refine wp_block ?_; obtain ⟨cB, bs, bt⟩ := Zb H; have S := S.reorder (ℓ' := [Loc.box a E (pre0 ++ cs0 ++ post0), Loc.own (some aR) 211 1 ((J).toNat) (J).toNat aH]) [1, 0] rfl (by decide); refine Zha bs (fun bu f w => ∃ (Y : (List Int)) (ag : Int) (m : Int) (aw : Option Nat) (M : Nat) (Z : Nat) (I : List Value) (ax : Zd), (Y, ag, m) = bu ∧ Zd.le o ax ∧ St 79 ⟨R, [a]⟩ o [(0, .slice (some ⟨a, off0, none⟩) (g) C), (1, .slice q1 V W), (2, .int .u64 (q)), (7, .slice (mkA aw) (M) Z), (8, .int .u64 (ag)), (20, .slice q1 V W), (21, .int .i64 ((((Zi 18446744073709551616 v)).length : Int))), (22, .int .i64 (m))] [Loc.box a E (pre0 ++ cs0 ++ post0), Loc.own aw 211 1 (M) Z I] ax f w ∧ Rep.rels (Za .u64) ax I Y ∧ M = Y.length ∧ inR .u64 ag ∧ inR .i64 m) ⟨_, _, _, some aR, (J).toNat, (J).toNat, aH, _, rfl, (leR _), (S.fr' rfl), bm, (Zwb (x := (0 : Int))), (by decide), (by decide)⟩ ?_; rintro _ f w st ⟨Y, ag, m, aw, M, Z, I, ax, hq, ay, S, ah, ai, bv, cC⟩ H cD bw bx; subst hq; have r := ZP ay r; refine sr (ov S rfl (Zj S rfl rfl Z4) fun f S => oe (Zh fun _ bz => ?_)); rcases Zy (decide (m < (((Zi 18446744073709551616 v)).length : Int))) with aj | aj
    · have H := Zw H aj; refine ZD S rfl aj (wp_skip (Zc (bz _ _ (Zh fun _ bA => wp_block (Zh fun _ bB => ?_))))); obtain ⟨aJ, aK, H⟩ := Zb H; refine Zm (mv S rfl fun f S => ?_); have D := Zo ay D; obtain ⟨_, aS, aT, cE, rfl, bC, bD⟩ := Zda D (Zk aK).2.1; obtain ⟨rfl, bE⟩ := bD; refine ov S rfl (ZS S rfl rfl ZR (Zk aK).1 (ltI (Zu D) (Zk aK).2.2.1)) fun f S => ov S rfl (Z2 S rfl Zra (S.view bC)) fun f S => mw S rfl fun f S => mw S rfl fun f S => Zl (Zc (bB _ _ (Zh fun _ bF => ?_))); obtain ⟨aU, bG, H⟩ := Zb H; refine Zm (mv S rfl fun f S => mv S rfl fun f S => opc S rfl (Zn S [.int .u64 (aJ), .int .u64 (q)] ZKj rfl rfl) (Zzj S.vin (show Rep.rel (Za .u64) _ [.int .u64 (aJ)] aJ from (Zp bE)) (show Rep.rel (Za .u64) _ [.int .u64 (q)] q from (Zp r4)) bG) ?_); rintro _ aV f w aL ⟨cF, cG, rfl, bH, bI⟩ S; have r := ZP aL r; have ah := ZP aL ah; obtain ⟨rfl, cH⟩ := bH; obtain ⟨rfl, cI⟩ := bI; refine mv S rfl fun f S => ov S rfl (ZM S rfl rfl) fun f S => ov S rfl (ZM S rfl rfl) fun f S => mw S rfl fun f S => mw S rfl fun f S => Zl (Zc (bF _ _ (sr (mw S rfl fun f S => oe (Zh fun _ bJ => ?_))))); obtain ⟨N, aW, H⟩ := Zb H; obtain ⟨cJ, aa, H⟩ := Zb H; refine Zm (mv S rfl fun f S => mv S rfl fun f S => mv S rfl fun f S => mv S rfl fun f S => ov S rfl (Zke S [.int .u64 (aU.2), .int .u64 (ag), .int .u64 ((0 : Int))] (Zlg ZOf aW) rfl rfl) fun f S => mv S rfl fun f S => ov S rfl (ZM S rfl rfl) fun f S => ov S rfl (ZM S rfl rfl) fun f S => ?_)
      obtain ⟨aX, rfl⟩ := ZNb S (j := 1) rfl (ZSb ai (Zk aa).2.2.2); have aY := Zya ah (Zk aa).2.1; obtain ⟨cK, bK⟩ : ∃ c, (List.take (Za .u64).n (List.drop ((m).toNat * (Za .u64).n) I)) = c := ⟨_, rfl⟩; rw [bK] at aY; obtain ⟨rfl, cL⟩ := aY; refine ov S rfl (ZS S rfl rfl ZR (Zk aa).1 (ltI ai (Zk aa).2.2.1)) fun f S => ?_; obtain ⟨w, bL, S⟩ := ZLb S Zra (off := 0 + (m).toNat * 1) (z := .int .u64 (N.1)) (cs := [.int .u64 (N.1)]) (Zxb rfl) rfl (i := 1) rfl (ZHb S (j := 1) rfl (ltN ai (Zk aa).2.2.2)) (by first | rfl | simp [ZPa]); have bM : Rep.rels (Za .u64) aV (List.take (0 + (m).toNat * 1) I ++ [Value.int IntKind.u64 (N.1)] ++ List.drop (0 + (m).toNat * 1 + 1) I) (Y.set (m).toNat N.1) := ZAb ah (Zk aa).2.2.2 (show Rep.rel (Za .u64) aV [.int .u64 (N.1)] _ from (Zp (Zsh aW))) rfl rfl; have bN : M = (Y.set (m).toNat N.1).length := ZCb ai; refine ZY wn rfl (bL rfl rfl) (mw S rfl fun f S => Zl ?_); have S := S.fr' (σ' := [(0, .slice (some ⟨a, off0, none⟩) (g) C), (1, .slice (some ⟨aS, aT, none⟩) V W), (2, .int .u64 (q)), (7, .slice (mkA (some aX)) (M) Z), (11, .int .u64 (aU.1)), (13, .int .u64 (N.2)), (20, .slice (some ⟨aS, aT, none⟩) V W), (21, .int .i64 ((((Zi 18446744073709551616 v)).length : Int))), (22, .int .i64 (m))]) rfl
      refine Zc (bJ _ _ (Zm (mv S rfl fun f S => mv S rfl fun f S => ov S rfl (Zj S rfl rfl Z3b) fun f S => mw S rfl fun f S => Zl (Zea (Zc (bA _ _ ?_)))))); obtain ⟨cM, aZ, H⟩ := Zb H; refine Zm (ov S rfl (Zj S rfl rfl (Z7 aZ)) fun f S => mv S rfl fun f S => Zl ?_); obtain rfl := Zf H; refine bw _ rfl _ _ ⟨_, _, _, some aX, M, Z, (List.take (0 + (m).toNat * 1) I ++ [Value.int IntKind.u64 (N.1)] ++ List.drop (0 + (m).toNat * 1 + 1) I), _, rfl, (leT ay aL), (S.fr' rfl), bM, bN, (Zta _ _), (Z0 aZ).2⟩
    have H := Zz H aj; refine ZC S rfl aj (wp_exit (ZJ ?_)); obtain rfl := Zf H; have hq := bx _ rfl; subst hq; have H := bt; refine ZJ (Zba ?_); obtain rfl := Zf H; refine Zc (br _ _ ⟨_, _, aw, M, Z, I, _, rfl, (leT (leR _) ay), (S.fr' rfl), ah, ai, bv⟩)
  rintro f w ⟨L, b, aI, s, G, h, X, hq, a0, S, a1, az, bO⟩; subst hq; have H := bq; have r := ZP a0 r; refine Zc (bn _ _ (Zh fun _ bP => ?_)); obtain ⟨cN, ab, H⟩ := Zb H; refine Zm (mv S rfl fun f S => mv S rfl fun f S => ?_); have D := Zo a0 D; refine ov S rfl (ZF S (Zu D) rfl rfl ZR) fun f S => mv S rfl fun f S => ?_; obtain ⟨ac, rfl⟩ := ZNb S (j := 1) rfl (ZSb az (Zk ab).2.2.2); have a2 := Zya a1 (Zk ab).2.1; obtain ⟨cO, bQ⟩ : ∃ c, (List.take (Za .u64).n (List.drop (((((Zi 18446744073709551616 v)).length : Int)).toNat * (Za .u64).n) h)) = c := ⟨_, rfl⟩; rw [bQ] at a2; obtain ⟨rfl, cP⟩ := a2; refine ov S rfl (ZS S rfl rfl ZR (Zk ab).1 (ltI az (Zk ab).2.2.1)) fun f S => ?_; obtain ⟨w, bR, S⟩ := ZLb S Zra (off := 0 + ((((Zi 18446744073709551616 v)).length : Int)).toNat * 1) (z := .int .u64 (b)) (cs := [.int .u64 (b)]) (Zxb rfl) rfl (i := 1) rfl (ZHb S (j := 1) rfl (ltN az (Zk ab).2.2.2)) (by first | rfl | simp [ZPa]); have p : Rep.rels (Za .u64) X (List.take (0 + ((((Zi 18446744073709551616 v)).length : Int)).toNat * 1) h ++ [Value.int IntKind.u64 (b)] ++ List.drop (0 + ((((Zi 18446744073709551616 v)).length : Int)).toNat * 1 + 1) h) (L.set ((((Zi 18446744073709551616 v)).length : Int)).toNat b) := ZAb a1 (Zk ab).2.2.2 (show Rep.rel (Za .u64) X [.int .u64 (b)] _ from (Zp bO)) rfl rfl
  have aM : s = (L.set ((((Zi 18446744073709551616 v)).length : Int)).toNat b).length := ZCb az; refine ZY wn rfl (bR rfl rfl) (Zl (Zc (bP _ _ (Zh fun _ bS => Zh fun _ bT => ?_)))); obtain ⟨cQ, bU, H⟩ := Zb H; obtain ⟨cR, bV, H⟩ := Zb H; obtain ⟨bW, bX, H⟩ := Zb H; refine Zm (mv S rfl fun f S => ?_); have p0s120 := r; have h69s120 := p; have bY := S.vst.le; obtain ⟨cS, cT, a3, t, S, bZ, b1, b2, T⟩ := S.lendSeg (i := 0) (A := (Za .u64)) (l := u) (ℓ' := [Loc.own (some ac) 211 1 (s) G ((List.take (0 + ((((Zi 18446744073709551616 v)).length : Int)).toNat * 1) h ++ [Value.int IntKind.u64 (b)] ++ List.drop (0 + ((((Zi 18446744073709551616 v)).length : Int)).toNat * 1 + 1) h))]) rfl rfl aG r au bh; have p := ZP a3 p; refine opc S rfl (Zn S [.slice (some ⟨a, off0, none⟩) (g) C] Zjd rfl rfl) (Zrd S.vin (show Rep.rel (Zt (Za .u64)) _ [.slice (some ⟨a, off0, none⟩) (g) C] u from T) bU) ?_; rintro _ cU f w aA ⟨cV, rfl, P⟩ S; have p := ZP aA p; have t := aA _ _ t; obtain ⟨b3, b4, b5, rfl⟩ := ZZ P; refine mv S rfl fun f S => ?_; have T := Zo aA T; have h128s137 := T; have h69s137 := p; have h133s137 := P; have h124s137 := t; have b6 := S.vst.le; obtain ⟨cW, cX, aB, ak, S, b7, b8, b9, ca⟩ := S.lendSlice (i := 0) (A := (Za .u64)) (l := (L.set ((((Zi 18446744073709551616 v)).length : Int)).toNat b)) (ℓ' := []) rfl rfl rfl p aM
  have t := aB _ _ t; refine opc S rfl (Zn S [.slice (mkA (some ac)) (s) G] Zjd rfl rfl) (Zrd S.vin (show Rep.rel (Zt (Za .u64)) _ [.slice (mkA (some ac)) (s) G] ((L.set ((((Zi 18446744073709551616 v)).length : Int)).toNat b)) from ca) bV) ?_; rintro _ cY f w al ⟨cZ, rfl, a4⟩ S; have t := al _ _ t; have ak := al _ _ ak; obtain ⟨cb, cc, cd, rfl⟩ := ZZ a4; have P := Zo (leT aB al) P; refine opc S rfl (Zn S [.slice b3 b4 b5, .slice cb cc cd] Zrf rfl rfl) (ZPe S.vin P a4 bX) ?_; rintro _ c0 f w am ⟨c3, rfl, ce⟩ S; have t := am _ _ t; have ak := am _ _ ak; obtain ⟨rfl, c4⟩ := ce; refine ov S rfl (Zj S rfl rfl Z4) fun f S => Zl ?_; obtain ⟨c5, an, S⟩ := S.takeBack (e := Loc.own (some ac) 211 1 (s) G ((List.take (0 + ((((Zi 18446744073709551616 v)).length : Int)).toNat * 1) h ++ [Value.int IntKind.u64 (b)] ++ List.drop (0 + ((((Zi 18446744073709551616 v)).length : Int)).toNat * 1 + 1) h))) (leT (leT aB al) am) rfl ak b7 b8 b6 b9; have T := Zo (leT (leT aB al) am) T; have T := Zo an h128s137; have p := ZP an h69s137; have P := Zo am P; have P := Zo an h133s137; have t := an _ _ h124s137; obtain ⟨a5, a6, S⟩ := S.takeBack (e := Loc.box a E (pre0 ++ cs0 ++ post0)) (leT (leT a3 aA) an) rfl t bZ b1 bY b2; have r := ZP a6 p0s120
  have p := ZP a6 h69s120; refine Zc (bT _ _ ?_); rcases Zy (decide (bW < (0 : Int))) with ao | ao
  · have H := Zw H ao; refine ZD S rfl ao (sr (mw S rfl fun f S => oe (wp_ret (ZL ?_)))); obtain rfl := Zf H; refine ZHi S (ZK rfl (ZE S rfl)) ⟨⟨[.bool (false)], rfl, ZFa⟩, (S.boxAt (j := 0) rfl).2, _, (S.boxAt (j := 0) rfl).1, au, r⟩
  have H := Zz H ao; refine ZC S rfl ao (wp_skip (Zc (bS _ _ (sr (mw S rfl fun f S => oe (Zh fun _ cf => sr (mv S rfl fun f S => ov S rfl (ZF S au rfl rfl ZR) fun f S => mv S rfl fun f S => oe ?_))))))); obtain ⟨cg, ch, ci⟩ := Zb H; refine ZO (fun f w => ∃ (aC : (List Int)) (aN : List Value) (aD : Zd), aC = cg ∧ Zd.le a5 aD ∧ St 79 ⟨R, [a]⟩ o [] [Loc.box a E (pre0 ++ aN ++ post0)] aD f w ∧ Rep.rels (Za .u64) aD aN aC ∧ g = aC.length) (fun _ cj => ?_) ?_
  · have H := ch; refine wp_block ?_; obtain ⟨c6, ck, cl⟩ := Zb H; refine Zha ck (fun cm f w => ∃ (ad : (List Int)) (ap : Int) (d : Int) (B : List Value) (ae : Zd), (ad, ap, d) = cm ∧ Zd.le a5 ae ∧ St 79 ⟨R, [a]⟩ o [(0, .slice (some ⟨a, off0, none⟩) (g) C), (7, .slice (mkA (some ac)) (s) G), (14, .int .u64 (ap)), (58, .int .i64 ((u.length : Int))), (59, .int .i64 (d))] [Loc.box a E (pre0 ++ B ++ post0), Loc.own (some ac) 211 1 (s) G ((List.take (0 + ((((Zi 18446744073709551616 v)).length : Int)).toNat * 1) h ++ [Value.int IntKind.u64 (b)] ++ List.drop (0 + ((((Zi 18446744073709551616 v)).length : Int)).toNat * 1 + 1) h))] ae f w ∧ Rep.rels (Za .u64) ae B ad ∧ g = ad.length ∧ inR .u64 ap ∧ inR .i64 d) ⟨_, _, _, cs0, _, rfl, (leR _), (S.fr' rfl), r, au, (by decide), (by decide)⟩ ?_; rintro _ f w st ⟨ad, ap, d, B, ae, hq, aO, S, af, Q, c7, c8⟩ H c9 cn co; subst hq; have p := ZP aO p; refine sr (ov S rfl (Zj S rfl rfl Z4) fun f S => oe (Zh fun _ cp => ?_)); rcases Zy (decide (d < (u.length : Int))) with aq | aq
    · have H := Zw H aq; refine ZD S rfl aq (wp_skip (Zc (cp _ _ (Zh fun _ cq => wp_block (sr (mv S rfl fun f S => mw S rfl fun f S => oe ?_)))))); obtain ⟨a7, aE, H⟩ := Zb H; obtain ⟨a8, aF, H⟩ := Zb H; obtain ⟨U, aP, H⟩ := Zb H; obtain ⟨da, ar, H⟩ := Zb H; refine Zma (fl := #[true, true, true, true, true, true, true, true, true, true, true, false, true, true, true, true, false, false]) Zka (by kernel_rfl) S ?_; intro ops O F w S; refine rfa O F 0 rfl rfl S (Zr S rfl) fun f S => rfa O F 1 rfl rfl S (Zr S rfl) fun f S => rfa O F 2 rfl rfl S (Zr S rfl) fun f S => rfa O F 3 rfl rfl S (Zr S rfl) fun f S => ?_; have a9 := Zya af (Zk aE).2.1; obtain ⟨db, ba⟩ : ∃ c, (List.take (Za .u64).n (List.drop ((d).toNat * (Za .u64).n) B)) = c := ⟨_, rfl⟩; rw [ba] at a9; obtain ⟨rfl, cr⟩ := a9; refine rfa O F 4 rfl rfl S (ZS S rfl rfl ZR (Zk aE).1 (ltI Q (Zk aE).2.2.1)) fun f S => rfa O F 5 rfl rfl S (Z2 S rfl Zra (Zdg S (j := 0) rfl aG (ZBb af Q) ba (ltN Q (Zk aE).2.2.2) 0 [.int .u64 (a7)] rfl zl)) fun f S => rfa O F 6 rfl rfl S (Zr S rfl) fun f S => rfa O F 7 rfl rfl S (Zr S rfl) fun f S => ?_; have bb := Zya p (Zk aF).2.1; obtain ⟨dc, bc⟩ : ∃ c, (List.take (Za .u64).n (List.drop ((d).toNat * (Za .u64).n) (List.take (0 + ((((Zi 18446744073709551616 v)).length : Int)).toNat * 1) h ++ [Value.int IntKind.u64 (b)] ++ List.drop (0 + ((((Zi 18446744073709551616 v)).length : Int)).toNat * 1 + 1) h))) = c := ⟨_, rfl⟩
      rw [bc] at bb; obtain ⟨rfl, ct⟩ := bb; refine rfa O F 8 rfl rfl S (ZS S rfl rfl ZR (Zk aF).1 (ltI aM (Zk aF).2.2.1)) fun f S => rfa O F 9 rfl rfl S (Z2 S rfl Zra (ZEc S (j := 1) rfl bc (ltN aM (Zk aF).2.2.2) 0 [.int .u64 (a8)] rfl zl)) fun f S => rfa O F 10 rfl rfl S (Zr S rfl) fun f S => go1 O F 11 (nva [5, 9, 10, 4, 8, 2, 3, 6, 7] [0, 1] O rfl rfl S (Zke S [.int .u64 (a7), .int .u64 (a8), .int .u64 (ap)] (Z2k Z7j cr ct aP) rfl rfl) fun f S => ⟨(py S rfl rfl (Zr S rfl) (py S rfl rfl (Zr S rfl) Zs)), rfa O F 12 rfl rfl S (Zr S rfl) fun f S => rfa O F 13 rfl rfl S (ZM S rfl rfl) fun f S => rfa O F 14 rfl rfl S (ZM S rfl rfl) fun f S => ?_⟩); have bd := Zya af (Zk ar).2.1; obtain ⟨dd, cu⟩ : ∃ c, (List.take (Za .u64).n (List.drop ((d).toNat * (Za .u64).n) B)) = c := ⟨_, rfl⟩; rw [cu] at bd; obtain ⟨rfl, de⟩ := bd; refine rfa O F 15 rfl rfl S (ZS S rfl rfl ZR (Zk ar).1 (ltI Q (Zk ar).2.2.1)) fun f S => go1 O F 16 ?_; obtain ⟨w, cv, S⟩ := Zan S (k := (d).toNat) Zra (z := .int .u64 (U.1)) (c := [.int .u64 (U.1)]) (Zxb rfl) rfl (i := 0) rfl aG (ZBb af Q) (ltN Q (Zk ar).2.2.2) rfl (by first | rfl | simp [ZPa]); have cw : Rep.rels (Za .u64) ae (List.take (0 + (d).toNat * 1) B ++ [Value.int IntKind.u64 (U.1)] ++ List.drop (0 + (d).toNat * 1 + 1) B) (ad.set (d).toNat U.1) := ZAb af (Zk ar).2.2.2 (show Rep.rel (Za .u64) ae [.int .u64 (U.1)] _ from (Zp (ZXj aP))) rfl rfl
      have cx : g = (ad.set (d).toNat U.1).length := ZCb Q; refine nxs [0, 1, 2, 3, 4, 5, 6, 7, 8, 9, 10, 11, 12, 13, 15] [14] O rfl rfl (cv rfl rfl) (⟨(py S rfl rfl (ZM S rfl rfl) Zs), go1 O F 17 (nva [0, 1, 2, 3, 4, 5, 6, 7, 8, 9, 10, 11, 12, 13, 14, 15, 16] [] O rfl rfl S (Zga S rfl) fun f S => ⟨Zs, Z5 O F (Zea (Zc (cq _ _ ?_)))⟩)⟩); obtain ⟨df, be, H⟩ := Zb H; refine Zm (ov S rfl (Zj S rfl rfl (Z7 be)) fun f S => mv S rfl fun f S => Zl ?_); obtain rfl := Zf H; refine cn _ rfl _ _ ⟨_, _, _, (List.take (0 + (d).toNat * 1) B ++ [Value.int IntKind.u64 (U.1)] ++ List.drop (0 + (d).toNat * 1 + 1) B), _, rfl, aO, (S.fr' rfl), cw, cx, (ZXk aP), (Z0 be).2⟩
    have H := Zz H aq; refine ZC S rfl aq (wp_exit (ZJ ?_)); obtain rfl := Zf H; have hq := co _ rfl; subst hq; have H := cl; refine ZJ (Zba ?_); obtain rfl := Zf H; have S := S.reorder (ℓ' := [Loc.box a E (pre0 ++ B ++ post0)]) [0] rfl (by decide); refine Zc (cj _ _ ⟨_, B, _, rfl, (leT (leR _) aO), (S.fr' rfl), af, Q⟩)
  rintro f w ⟨aC, aN, aD, hq, dg, S, cy, cz⟩; subst hq; have H := ci; refine Zc (cf _ _ (sr (mw S rfl fun f S => oe (wp_ret ?_)))); obtain rfl := Zf H; refine ZHi S (ZK rfl (ZE S rfl)) ⟨⟨[.bool (true)], rfl, ZFa⟩, (S.boxAt (j := 0) rfl).2, _, (S.boxAt (j := 0) rfl).1, cz, cy⟩
theorem take_c {d : World} {a : Zd} (hv : VIn a d) {b off0 c e : Nat} {f : TypeId} {pre0 cs0 post0 : List Value} {u : (List Int)} (l : d.heap[b]? = some (.cells (pre0 ++ cs0 ++ post0).toArray f (0, 0))) (m : off0 = pre0.length) (n : a b = none) (o : c = u.length) (p : c ≤ e ∧ e ≤ maxLen) (g : Rep.rels (Za .u64) a cs0 u) {h : List Value} {v : Nat} (r : Rep.rel ZA a h v) {i : List Value} {q : Int} (j : Rep.rel (Za .u64) a i q) {z : Bool × (List Int)} (hm : ZXe u v q = some z) :
    RetL Tryz.prog 197 #[Value.slice (some ⟨b, off0, none⟩) c e, ZA.val h, (Za .u64).val i] d a [b] (fun y v' w' => (∃ k, y = Z6.val k ∧ Z6.rel v' k z.1) ∧ v' b = none ∧ ∃ cs, w'.heap[b]? = some (.cells (pre0 ++ cs ++ post0).toArray f (0, 0)) ∧ c = z.2.length ∧ Rep.rels (Za .u64) v' cs z.2) :=
  take_w hv l m n o p g r j (Z6o (Zwj g) j.2 hm)
theorem digit_w {x : World} {m : Zd} (hv : VIn m x) {a off0 e h : Nat} {A : TypeId} {pre0 cs0 post0 : List Value} {u : (List Int)} (a0 : x.heap[a]? = some (.cells (pre0 ++ cs0 ++ post0).toArray A (0, 0))) (G : off0 = pre0.length) (a1 : m a = none) (k : e = u.length) (a2 : e ≤ h ∧ h ≤ maxLen) (d : Rep.rels (Za .u64) m cs0 u) {c1 : List Value} {v : Nat} (g : Rep.rel ZA m c1 v) {z : Int × (List Int)} (H : Zyg u v = some z) : RetL Tryz.prog 178 #[.slice (some ⟨a, off0, none⟩) e h, ZA.val c1] x m [a] (fun y v' w' => (∃ r0, y = (Za .u64).val r0 ∧ (Za .u64).rel v' r0 z.1) ∧ v' a = none ∧ ∃ cs, w'.heap[a]? = some (.cells (pre0 ++ cs ++ post0).toArray A (0, 0)) ∧ e = z.2.length ∧ Rep.rels (Za .u64) v' cs z.2) := by
  obtain ⟨q1, o, p, rfl⟩ := ZZ g; refine ZYj (K := 90) (args := [.slice (some ⟨a, off0, none⟩) (e) h, .slice q1 o p]) hv a0 a1 Tryz.func178 rfl rfl zl fun f S => ?_; unfold Zyg at H; refine sr (mw S rfl fun f S => oe (sr (mv S rfl fun f S => ov S rfl (ZF S (Zu g) rfl rfl ZR) fun f S => mw S rfl fun f S => oe (sr (mw S rfl fun f S => oe (Zh fun _ a3 => Zh fun _ a4 => ?_)))))); obtain ⟨aE, V, H⟩ := Zb H; obtain ⟨cf, a5, H⟩ := Zb H; obtain ⟨a6, aj, H⟩ := Zb H; refine Zma (fl := #[true, true, true, true, true, true, true, true, true, true]) Zka (by kernel_rfl) S ?_; intro ops O F w S; refine rfa O F 0 rfl rfl S (Zr S rfl) fun f S => rfa O F 1 rfl rfl S (Zr S rfl) fun f S => ?_; have aF := Zya d (Zk V).2.1; obtain ⟨cg, aG⟩ : ∃ c, (List.take (Za .u64).n (List.drop (((((Zi 18446744073709551616 v)).length : Int)).toNat * (Za .u64).n) cs0)) = c := ⟨_, rfl⟩; rw [aG] at aF; obtain ⟨rfl, ch⟩ := aF; refine rfa O F 2 rfl rfl S (ZS S rfl rfl ZR (Zk V).1 (ltI k (Zk V).2.2.1)) fun f S => rfa O F 3 rfl rfl S (Z2 S rfl Zra (Zdg S (j := 0) rfl G (ZBb d k) aG (ltN k (Zk V).2.2.2) 0 [.int .u64 (aE)] rfl zl)) fun f S => rfa O F 4 rfl rfl S (Zr S rfl) fun f S => rfa O F 5 rfl rfl S (Zr S rfl) fun f S => rfa O F 6 rfl rfl S (Zj S rfl rfl (ZAa a5)) fun f S => ?_; obtain ⟨_, r, s, ci, rfl, a7, a8⟩ := Zda g (Zk aj).2.1
  obtain ⟨rfl, cj⟩ := a8; refine rfa O F 7 rfl rfl S (ZS S rfl rfl ZR (Zk aj).1 (ltI (Zu g) (Zk aj).2.2.1)) fun f S => rfa O F 8 rfl rfl S (Z2 S rfl Zra (S.view a7)) fun f S => rfa O F 9 rfl rfl S (Zj S rfl rfl Z4) fun f S => Z5 O F (Zc (a4 _ _ ?_)); obtain ⟨a9, ba, bb⟩ := Zb H; refine ZO (fun f w => ∃ (W : Int) (I : Zd), W = a9 ∧ Zd.le m I ∧ St 90 ⟨x, [a]⟩ m [(0, .slice (some ⟨a, off0, none⟩) (e) h), (1, .slice (some ⟨r, s, none⟩) o p), (6, .int .u64 (W))] [Loc.box a A (pre0 ++ cs0 ++ post0)] I f w ∧ inR .u64 W) (fun _ aH => ?_) ?_
  · have H := ba; rcases Zy (decide (aE < a6)) with J | J
    · have H := Zw H J; refine ZD S rfl J (sr (mw S rfl fun f S => oe (Zh fun _ bc => ?_))); obtain ⟨X, Y, H⟩ := Zb H; obtain ⟨bd, be, H⟩ := Zb H; obtain ⟨Z, aa, H⟩ := Zb H; obtain ⟨ck, bf, H⟩ := Zb H; obtain ⟨ak, al, H⟩ := Zb H; obtain ⟨aI, bg, H⟩ := Zb H; refine Zma (fl := #[true, true, true, true, true, true, true, true, true, true, true, true, true, true, false, true, true, true, false, false]) Zka (by kernel_rfl) S ?_; intro ops O F w S; refine rfa O F 0 rfl rfl S (Zr S rfl) fun f S => rfa O F 1 rfl rfl S (Zr S rfl) fun f S => ?_; have aJ := Zya d (Zk Y).2.1; obtain ⟨cl, aK⟩ : ∃ c, (List.take (Za .u64).n (List.drop (((((Zi 18446744073709551616 v)).length : Int)).toNat * (Za .u64).n) cs0)) = c := ⟨_, rfl⟩; rw [aK] at aJ; obtain ⟨rfl, bh⟩ := aJ; refine rfa O F 2 rfl rfl S (ZS S rfl rfl ZR (Zk Y).1 (ltI k (Zk Y).2.2.1)) fun f S => rfa O F 3 rfl rfl S (Z2 S rfl Zra (Zdg S (j := 0) rfl G (ZBb d k) aK (ltN k (Zk Y).2.2.2) 0 [.int .u64 (X)] rfl zl)) fun f S => rfa O F 4 rfl rfl S (Zr S rfl) fun f S => rfa O F 5 rfl rfl S (Zr S rfl) fun f S => rfa O F 6 rfl rfl S (Zj S rfl rfl (ZAa be)) fun f S => ?_; have aL := Zya d (Zk aa).2.1; obtain ⟨cm, aM⟩ : ∃ c, (List.take (Za .u64).n (List.drop ((bd).toNat * (Za .u64).n) cs0)) = c := ⟨_, rfl⟩
      rw [aM] at aL; obtain ⟨rfl, bi⟩ := aL; refine rfa O F 7 rfl rfl S (ZS S rfl rfl ZR (Zk aa).1 (ltI k (Zk aa).2.2.1)) fun f S => rfa O F 8 rfl rfl S (Z2 S rfl Zra (Zdg S (j := 0) rfl G (ZBb d k) aM (ltN k (Zk aa).2.2.2) 0 [.int .u64 (Z)] rfl zl)) fun f S => rfa O F 9 rfl rfl S (Zr S rfl) fun f S => rfa O F 10 rfl rfl S (Zr S rfl) fun f S => rfa O F 11 rfl rfl S (Zj S rfl rfl (ZAa bf)) fun f S => ?_; obtain ⟨cn, am, bj⟩ := Zqc g (Zk al).2.1; obtain ⟨rfl, bk⟩ := bj; refine rfa O F 12 rfl rfl S (ZS S rfl rfl ZR (Zk al).1 (ltI (Zu g) (Zk al).2.2.1)) fun f S => rfa O F 13 rfl rfl S (Z2 S rfl Zra (S.view am)) fun f S => go1 O F 14 (nxc [3, 8, 13, 2, 7, 12, 0, 1, 4, 6, 9, 11, 5, 10] [] O rfl S rfl (Zn S [.int .u64 (X), .int .u64 (Z), .int .u64 (ak)] ZGl rfl rfl) (ZVl S.vin (show Rep.rel (Za .u64) _ [.int .u64 (X)] X from (Zp bh)) (show Rep.rel (Za .u64) _ [.int .u64 (Z)] Z from (Zp bi)) (show Rep.rel (Za .u64) _ [.int .u64 (ak)] ak from (Zp bk)) bg) ?_); rintro _ aN f w ab ⟨co, cp, rfl, bm, bn⟩ S; have d := ZP ab d; have am := Atm ab am; obtain ⟨rfl, bo⟩ := bm; obtain ⟨rfl, bp⟩ := bn; refine ⟨Zs, rfa O F 15 rfl rfl S (Zr S rfl) fun f S => rfa O F 16 rfl rfl S (ZM S rfl rfl) fun f S => rfa O F 17 rfl rfl S (ZM S rfl rfl) fun f S => go1 O F 18 (nva [0, 1, 2, 3, 4, 5, 6, 7, 8, 9, 10, 11, 12, 13, 14, 15, 16] [17] O rfl rfl S (Zga S rfl) fun f S => ⟨(py S rfl rfl (ZM S rfl rfl) Zs), go1 O F 19 (nva [0, 1, 2, 3, 4, 5, 6, 7, 8, 9, 10, 11, 12, 13, 14, 15, 16, 17, 18] [] O rfl rfl S (Zga S rfl) fun f S => ⟨Zs, Z5 O F ?_⟩)⟩)⟩
      have S := S.fr' (σ' := [(0, .slice (some ⟨a, off0, none⟩) (e) h), (1, .slice (some ⟨r, s, none⟩) o p), (5, .int .i64 ((((Zi 18446744073709551616 v)).length : Int))), (6, .int .u64 (aI.1)), (7, .int .u64 (aI.2))]) rfl; refine Zc (bc _ _ ?_); obtain ⟨bq, br, bs⟩ := Zb H; refine ZO (fun f w => ∃ (ac : Int) (an : Zd), ac = bq ∧ Zd.le aN an ∧ St 90 ⟨x, [a]⟩ m [(0, .slice (some ⟨a, off0, none⟩) (e) h), (1, .slice (some ⟨r, s, none⟩) o p), (6, .int .u64 (ac))] [Loc.box a A (pre0 ++ cs0 ++ post0)] an f w ∧ inR .u64 ac) (fun _ aO => ?_) ?_
      · have H := br; refine wp_block ?_; obtain ⟨cq, bt, aP⟩ := Zb H; refine Zha bt (fun bu f w => ∃ (q : Int) (l : Int) (ao : Zd), (q, l) = bu ∧ Zd.le aN ao ∧ St 90 ⟨x, [a]⟩ m [(0, .slice (some ⟨a, off0, none⟩) (e) h), (1, .slice (some ⟨r, s, none⟩) o p), (5, .int .i64 ((((Zi 18446744073709551616 v)).length : Int))), (6, .int .u64 (q)), (7, .int .u64 (l))] [Loc.box a A (pre0 ++ cs0 ++ post0)] ao f w ∧ inR .u64 q ∧ inR .u64 l) ⟨_, _, _, rfl, (leR _), (S.fr' rfl), bo, bp⟩ ?_; rintro _ f w st ⟨q, l, ao, hq, L, S, aQ, cr⟩ H ct bv aR; subst hq; have d := ZP L d; refine wp_block (Zh fun _ bw => ?_); obtain ⟨cu, bx, H⟩ := Zb H; obtain ⟨ap, aq, H⟩ := Zb H; obtain ⟨B, bz, H⟩ := Zb H; refine Zm (mv S rfl fun f S => mv S rfl fun f S => mv S rfl fun f S => ov S rfl (Zj S rfl rfl (ZAa bx)) fun f S => ?_); have g := Zo (leT ab L) g; obtain ⟨cv, ar, bA⟩ := Zqc g (Zk aq).2.1; obtain ⟨rfl, bB⟩ := bA; refine ov S rfl (ZS S rfl rfl ZR (Zk aq).1 (ltI (Zu g) (Zk aq).2.2.1)) fun f S => ov S rfl (Z2 S rfl Zra (S.view ar)) fun f S => opc S rfl (Zn S [.int .u64 (q), .int .u64 (ap)] ZKj rfl rfl) (Zzj S.vin (show Rep.rel (Za .u64) _ [.int .u64 (q)] q from (Zp aQ)) (show Rep.rel (Za .u64) _ [.int .u64 (ap)] ap from (Zp bB)) bz) ?_
        rintro _ bC f w D ⟨cw, cx, rfl, bD, bE⟩ S; have d := ZP D d; have ar := Atm D ar; obtain ⟨rfl, cy⟩ := bD; obtain ⟨rfl, cz⟩ := bE; refine mv S rfl fun f S => ov S rfl (ZM S rfl rfl) fun f S => ov S rfl (ZM S rfl rfl) fun f S => mw S rfl fun f S => mw S rfl fun f S => Zl (Zc (bw _ _ (Zh fun _ bF => Zh fun _ bG => ?_))); obtain ⟨bH, bI, bJ⟩ := Zb H; refine ZO (fun f w => ∃ (ad : Bool) (au : Zd), ad = bH ∧ Zd.le bC au ∧ St 90 ⟨x, [a]⟩ m [(0, .slice (some ⟨a, off0, none⟩) (e) h), (1, .slice (some ⟨r, s, none⟩) o p), (5, .int .i64 ((((Zi 18446744073709551616 v)).length : Int))), (6, .int .u64 (q)), (7, .int .u64 (l)), (67, .bool (ad))] [Loc.box a A (pre0 ++ cs0 ++ post0)] au f w) (fun _ av => ?_) ?_
        · have H := bI; rcases Zy (decide (B.1 < l)) with E | E
          · have H := Zw H E; refine Zm (mv S rfl fun f S => mv S rfl fun f S => ov S rfl (Zj S rfl rfl Z4) fun f S => ?_); have S := S.bool (t := 53) rfl E; refine mv S rfl fun f S => opn S rfl rfl rfl rfl fun f S => opn S rfl rfl rfl rfl fun f S => opn S rfl rfl rfl rfl fun f S => opn S rfl rfl rfl rfl fun f S => ZJc S (Z4c S rfl rfl rfl zl) rfl zl fun f S => ZJc S (Z4c S rfl rfl rfl zl) rfl zl fun f S => ZJc S (Z4c S rfl rfl rfl zl) rfl zl fun f S => ZJc S (Z4c S rfl rfl rfl zl) rfl zl fun f S => ZJc S (Z4c S rfl rfl rfl zl) rfl zl fun f S => ZJc S (Z4c S rfl rfl rfl zl) rfl zl fun f S => ZJc S (Z4c S rfl rfl rfl zl) rfl zl fun f S => opn S rfl rfl rfl rfl fun f S => ov S rfl (ZQ S (b := true) rfl rfl) fun f S => ?_; refine Zl ?_; have S := S.fr' (σ' := [(0, .slice (some ⟨a, off0, none⟩) (e) h), (1, .slice (some ⟨r, s, none⟩) o p), (5, .int .i64 ((((Zi 18446744073709551616 v)).length : Int))), (6, .int .u64 (q)), (7, .int .u64 (l)), (55, undef), (56, undef), (57, undef), (58, undef), (59, undef), (60, undef), (61, undef), (62, undef), (63, undef), (64, undef), (65, undef), (66, undef), (67, .bool (true))]) rfl; obtain rfl := Zf H; refine Zc (av _ _ ⟨_, _, rfl, (leR _), (S.fr' rfl)⟩)
          have H := Zz H E; rcases Zy (B.1 == l) with M | M
          · have H := Zw H M; obtain ⟨aw, bK, H⟩ := Zb H; obtain ⟨N, ae, H⟩ := Zb H; refine Zm (mv S rfl fun f S => mv S rfl fun f S => ov S rfl (Zj S rfl rfl Z4) fun f S => ?_); have S := S.bool (t := 53) rfl E; refine mv S rfl fun f S => opy S rfl rfl rfl rfl (Zr S rfl) fun f S => opy S rfl rfl rfl rfl (Zr S rfl) fun f S => opy S rfl rfl rfl rfl (Zj S rfl rfl Zfa) fun f S => ?_; have S := S.bool (t := 57) rfl M; refine opy S rfl rfl rfl rfl (Zr S rfl) fun f S => opy S rfl rfl rfl rfl (Zr S rfl) fun f S => opy S rfl rfl rfl rfl (Zr S rfl) fun f S => opy S rfl rfl rfl rfl (Zr S rfl) fun f S => opy S rfl rfl rfl rfl (Zj S rfl rfl (ZAa bK)) fun f S => ?_; have aS := Zya d (Zk ae).2.1; obtain ⟨cA, aT⟩ : ∃ c, (List.take (Za .u64).n (List.drop ((aw).toNat * (Za .u64).n) cs0)) = c := ⟨_, rfl⟩; rw [aT] at aS; obtain ⟨rfl, cB⟩ := aS; refine opy S rfl rfl rfl rfl (ZS S rfl rfl ZR (Zk ae).1 (ltI k (Zk ae).2.2.1)) fun f S => opy S rfl rfl rfl rfl (Z2 S rfl Zra (Zdg S (j := 0) rfl G (ZBb d k) aT (ltN k (Zk ae).2.2.2) 0 [.int .u64 (N)] rfl zl)) fun f S => opy S rfl rfl rfl rfl (Zj S rfl rfl ZHc) fun f S => opy S rfl rfl rfl rfl (ZQ S (b := true) rfl rfl) fun f S => ov S rfl (ZQ S (b := false) rfl rfl) fun f S => Zl ?_; have S := S.fr' (σ' := [(0, .slice (some ⟨a, off0, none⟩) (e) h), (1, .slice (some ⟨r, s, none⟩) o p), (5, .int .i64 ((((Zi 18446744073709551616 v)).length : Int))), (6, .int .u64 (q)), (7, .int .u64 (l)), (55, .int .u64 (B.1)), (56, .int .u64 (l)), (57, .bool (true)), (58, .bool (true)), (59, .int .u64 (B.2)), (60, .slice (some ⟨a, off0, none⟩) (e) h), (61, .int .i64 ((((Zi 18446744073709551616 v)).length : Int))), (62, .int .i64 (aw)), (63, .pointer (some ⟨a, off0 + (aw).toNat * 1, none⟩)), (64, .int .u64 (N)), (65, .bool (decide (B.2 ≤ N))), (66, .bool (decide (B.2 ≤ N))), (67, .bool (decide (B.2 ≤ N)))]) rfl
            obtain rfl := Zf H; refine Zc (av _ _ ⟨_, _, rfl, (leR _), (S.fr' rfl)⟩)
          have H := Zz H M; refine Zm (mv S rfl fun f S => mv S rfl fun f S => ov S rfl (Zj S rfl rfl Z4) fun f S => ?_); have S := S.bool (t := 53) rfl E; refine mv S rfl fun f S => opy S rfl rfl rfl rfl (Zr S rfl) fun f S => opy S rfl rfl rfl rfl (Zr S rfl) fun f S => opy S rfl rfl rfl rfl (Zj S rfl rfl Zfa) fun f S => ?_; have S := S.bool (t := 57) rfl M; refine opy S rfl rfl rfl rfl (Zr S rfl) fun f S => opn S rfl rfl rfl rfl fun f S => opn S rfl rfl rfl rfl fun f S => opn S rfl rfl rfl rfl fun f S => opn S rfl rfl rfl rfl fun f S => opn S rfl rfl rfl rfl fun f S => opn S rfl rfl rfl rfl fun f S => opn S rfl rfl rfl rfl fun f S => opy S rfl rfl rfl rfl (ZQ S (b := false) rfl rfl) fun f S => ov S rfl (ZQ S (b := false) rfl rfl) fun f S => Zl ?_; have S := S.fr' (σ' := [(0, .slice (some ⟨a, off0, none⟩) (e) h), (1, .slice (some ⟨r, s, none⟩) o p), (5, .int .i64 ((((Zi 18446744073709551616 v)).length : Int))), (6, .int .u64 (q)), (7, .int .u64 (l)), (55, .int .u64 (B.1)), (56, .int .u64 (l)), (57, .bool (false)), (58, .bool (false)), (59, undef), (60, undef), (61, undef), (62, undef), (63, undef), (64, undef), (65, undef), (66, .bool (false)), (67, .bool (false))]) rfl; obtain rfl := Zf H; refine Zc (av _ _ ⟨_, _, rfl, (leR _), (S.fr' rfl)⟩)
        rintro f w ⟨ad, au, hq, P, S⟩; subst hq; have H := bJ; have d := ZP P d; refine Zc (bG _ _ ?_); rcases Zy (ad) with Q | Q
        · have H := Zw H Q; refine ZD S rfl Q (wp_exit (ZJ (Z0c rfl ?_))); obtain rfl := Zf H; have hq := aR _ rfl; subst hq; have H := aP; refine ZJ (Zba ?_); obtain rfl := Zf H; refine Zc (aO _ _ ⟨_, _, rfl, (leT (leT (leT (leR _) L) D) P), (S.fr' rfl), aQ⟩)
        have H := Zz H Q; refine ZC S rfl Q (wp_skip (Zc (bF _ _ (sr (mv S rfl fun f S => ov S rfl (Zj S rfl rfl Zhd) fun f S => mw S rfl fun f S => oe (sr (mw S rfl fun f S => oe (Zh fun _ bL => ?_)))))))); obtain ⟨cC, bM, H⟩ := Zb H; obtain ⟨bN, ax, H⟩ := Zb H; obtain ⟨bO, aU, H⟩ := Zb H; refine Zm (mv S rfl fun f S => mv S rfl fun f S => mv S rfl fun f S => ov S rfl (Zj S rfl rfl (ZAa bM)) fun f S => ?_); have g := Zo (leT D P) g; obtain ⟨cD, bP, bQ⟩ := Zqc g (Zk ax).2.1; obtain ⟨rfl, cE⟩ := bQ; refine ov S rfl (ZS S rfl rfl ZR (Zk ax).1 (ltI (Zu g) (Zk ax).2.2.1)) fun f S => ov S rfl (Z2 S rfl Zra (S.view bP)) fun f S => ov S rfl (Zke S [.int .u64 (l), .int .u64 (bN), .int .u64 ((0 : Int))] (Zlg ZOf aU) rfl rfl) fun f S => mv S rfl fun f S => ov S rfl (ZM S rfl rfl) fun f S => ov S rfl (ZM S rfl rfl) fun f S => mw S rfl fun f S => mw S rfl fun f S => Zl (Zc (bL _ _ (sr (mv S rfl fun f S => ov S rfl (Zj S rfl rfl Zwa) fun f S => oe ?_)))); rcases Zy (decide ((0 : Int) < bO.2)) with R | R
        · have H := Zw H R; refine ZD S rfl R (wp_exit (Z0c rfl ?_)); obtain rfl := Zf H; have hq := aR _ rfl; subst hq; have H := aP; refine ZJ (Zba ?_); obtain rfl := Zf H; refine Zc (aO _ _ ⟨_, _, rfl, (leT (leT (leT (leR _) L) D) P), (S.fr' rfl), (Zta _ _)⟩)
        have H := Zz H R; refine ZC S rfl R (wp_skip (Zea ?_)); obtain rfl := Zf H; refine bv _ rfl _ _ ⟨_, _, _, rfl, (leT (leT L D) P), (S.fr' rfl), (Zta _ _), (Zsh aU)⟩
      rintro f w ⟨ac, an, hq, aV, S, bR⟩; subst hq; have H := bs; have d := ZP aV d; obtain rfl := Zf H; refine Zc (aH _ _ ⟨_, _, rfl, (leT (leT (leR _) ab) aV), (S.fr' rfl), bR⟩)
    have H := Zz H J; refine ZC S rfl J (wp_skip ?_); obtain rfl := Zf H; refine Zc (aH _ _ ⟨_, _, rfl, (leR _), (S.fr' rfl), (by decide)⟩)
  rintro f w ⟨W, I, hq, aW, S, bS⟩; subst hq; have H := bb; have d := ZP aW d; refine Zc (a3 _ _ (Zh fun _ bT => ?_)); obtain ⟨bU, bV, bW⟩ := Zb H; refine ZO (fun f w => ∃ (af : (List Int)) (T : Int) (ay : List Value) (ag : Zd), (af, T) = bU ∧ Zd.le I ag ∧ St 90 ⟨x, [a]⟩ m [(6, .int .u64 (T))] [Loc.box a A (pre0 ++ ay ++ post0)] ag f w ∧ Rep.rels (Za .u64) ag ay af ∧ e = af.length ∧ inR .u64 T) (fun _ bX => ?_) ?_
  · have H := bV; refine wp_block ?_; obtain ⟨cF, bY, bZ⟩ := Zb H; refine Zha bY (fun b1 f w => ∃ (ah : (List Int)) (C : Int) (az : List Value) (ai : Zd), (ah, C) = b1 ∧ Zd.le I ai ∧ St 90 ⟨x, [a]⟩ m [(0, .slice (some ⟨a, off0, none⟩) (e) h), (1, .slice (some ⟨r, s, none⟩) o p), (6, .int .u64 (C))] [Loc.box a A (pre0 ++ az ++ post0)] ai f w ∧ Rep.rels (Za .u64) ai az ah ∧ e = ah.length ∧ inR .u64 C) ⟨_, _, cs0, _, rfl, (leR _), (S.fr' rfl), d, k, bS⟩ ?_; rintro _ f w st ⟨ah, C, az, ai, hq, aA, S, aB, b2, aX⟩ H cG b3 b4; subst hq; refine Zh fun _ b5 => Zh fun _ b6 => ?_; obtain ⟨b7, b8, H⟩ := Zb H; refine Zm (mv S rfl fun f S => mv S rfl fun f S => mv S rfl fun f S => ?_); have g := Zo (leT aW aA) g; refine Zrl S wn rfl zl (Zn S [.slice (some ⟨a, off0, none⟩) (e) h, .slice (some ⟨r, s, none⟩) o p, .int .u64 (C)] k_en197 rfl rfl) (i := 0) rfl rfl (take_c S.vin (S.boxAt (j := 0) rfl).1 G (S.boxAt (j := 0) rfl).2 b2 a2 aB g (show Rep.rel (Za .u64) _ [.int .u64 (C)] C from (Zp aX)) b8) ?_; rintro _ cH f w aC ⟨⟨cI, rfl, b9⟩, ca, aD, cb, aY, aZ⟩ hSf; have aB := ZP aC aB; have S := hSf (Loc.box a A (pre0 ++ aD ++ post0)) rfl cb ca; obtain rfl := b9; refine ov S rfl (Z1c S rfl) fun f S => Zl (Zc (b6 _ _ ?_)); rcases Zy (!(b7.1)) with U | U
    · have H := Zw H U; refine ZD S rfl U (wp_skip (Zc (b5 _ _ (wp_block (Zm (mv S rfl fun f S => ov S rfl (Zj S rfl rfl Zhd) fun f S => mw S rfl fun f S => Zl (Zea ?_))))))); obtain rfl := Zf H; refine b3 _ rfl _ _ ⟨_, _, aD, _, rfl, (leT aA aC), (S.fr' rfl), aZ, aY, (Zta _ _)⟩
    have H := Zz H U; refine ZC S rfl U (wp_exit (ZJ ?_)); obtain rfl := Zf H; have hq := b4 _ rfl; subst hq; have H := bZ; refine ZJ (Zba ?_); obtain rfl := Zf H; refine Zc (bX _ _ ⟨_, _, aD, _, rfl, (leT (leT (leR _) aA) aC), (S.fr' rfl), aZ, aY, aX⟩)
  rintro f w ⟨af, T, ay, ag, hq, cJ, S, cc, cd, ce⟩; subst hq; have H := bW; refine Zc (bT _ _ (sr (mv S rfl fun f S => mw S rfl fun f S => oe (wp_ret ?_)))); obtain rfl := Zf H; refine ZHi S (ZK rfl (ZE S rfl)) ⟨⟨[.int .u64 (T)], rfl, (Zp ce)⟩, (S.boxAt (j := 0) rfl).2, _, (S.boxAt (j := 0) rfl).1, cd, cc⟩
theorem digit_c {d : World} {b : Zd} (hv : VIn b d) {a off0 c e : Nat} {f : TypeId} {pre0 cs0 post0 : List Value} {u : (List Int)} (j : d.heap[a]? = some (.cells (pre0 ++ cs0 ++ post0).toArray f (0, 0))) (k : off0 = pre0.length) (l : b a = none) (m : c = u.length) (n : c ≤ e ∧ e ≤ maxLen) (g : Rep.rels (Za .u64) b cs0 u) {h : List Value} {v : Nat} (o : Rep.rel ZA b h v) {z : Int × (List Int)} (hm : ZYe u v = some z) :
    RetL Tryz.prog 178 #[Value.slice (some ⟨a, off0, none⟩) c e, ZA.val h] d b [a] (fun y v' w' => (∃ i, y = (Za .u64).val i ∧ (Za .u64).rel v' i z.1) ∧ v' a = none ∧ ∃ cs, w'.heap[a]? = some (.cells (pre0 ++ cs ++ post0).toArray f (0, 0)) ∧ c = z.2.length ∧ Rep.rels (Za .u64) v' cs z.2) :=
  digit_w hv j k l m n g o (Z0n (Zwj g) hm)
theorem left_w {I : World} {o : Zd} (hv : VIn o I) {c0 : List Value} {a : Nat} (g : Rep.rel ZA o c0 a) {c1 : List Value} {n : Int} (p1 : Rep.rel (Za .i64) o c1 n) {z : Nat} (H : Zjg a n = some z) : Ret Tryz.prog 177 #[ZA.val c0, (Za .i64).val c1] I o (fun y v' => ∃ r0, y = ZA.val r0 ∧ ZA.rel v' r0 z) := by
  obtain ⟨W, J, L, rfl⟩ := ZZ g; obtain ⟨rfl, r4⟩ := p1; refine ZU (K := 58) (args := [.slice W J L, .int .i64 (n)]) hv Tryz.func177 rfl rfl zl fun f S => ?_; unfold Zjg at H; refine sr (mw S rfl fun f S => oe (Zh fun _ av => Zh fun _ aw => ?_)); obtain ⟨ax, ay, az⟩ := Zb H; refine ZO (fun f w => ∃ (X : Bool) (v : Zd), X = ax ∧ Zd.le o v ∧ St 58 I o [(0, .slice W J L), (1, .int .i64 (n)), (14, .bool (X))] [] v f w) (fun _ ag => ?_) ?_
  · have H := ay; rcases Zy (((((Zi 18446744073709551616 a)).length : Int)) == ((0 : Int))) with M | M
    · have H := Zw H M; refine Zm (mv S rfl fun f S => ov S rfl (ZF S (Zu g) rfl rfl ZR) fun f S => ov S rfl (Zj S rfl rfl Zfa) fun f S => ?_); have S := S.bool (t := 10) rfl M; refine mv S rfl fun f S => opn S rfl rfl rfl rfl fun f S => opn S rfl rfl rfl rfl fun f S => ov S rfl (ZQ S (b := true) rfl rfl) fun f S => Zl ?_; obtain rfl := Zf H; refine Zc (ag _ _ ⟨_, _, rfl, (leR _), (S.fr' rfl)⟩)
    have H := Zz H M; refine Zm (mv S rfl fun f S => ov S rfl (ZF S (Zu g) rfl rfl ZR) fun f S => ov S rfl (Zj S rfl rfl Zfa) fun f S => ?_); have S := S.bool (t := 10) rfl M; refine mv S rfl fun f S => opy S rfl rfl rfl rfl (Zr S rfl) fun f S => opy S rfl rfl rfl rfl (Zj S rfl rfl Zfa) fun f S => ov S rfl (ZQ S (b := false) rfl rfl) fun f S => Zl ?_; obtain rfl := Zf H; refine Zc (ag _ _ ⟨_, _, rfl, (leR _), (S.fr' rfl)⟩)
  rintro f w ⟨X, v, hq, ah, S⟩; subst hq; have H := az; refine Zc (aw _ _ ?_); rcases Zy (X) with N | N
  · have H := Zw H N; refine ZD S rfl N (sr (mv S rfl fun f S => mw S rfl fun f S => oe (wp_ret (ZL ?_)))); obtain rfl := Zf H; have g := Zo ah g; refine ZB S (ZK rfl (ZE S rfl)) ⟨[.slice W J L], rfl, g⟩
  have H := Zz H N; refine ZC S rfl N (wp_skip (Zc (av _ _ (Zh fun _ aA => ?_)))); obtain ⟨bo, aB, H⟩ := Zb H; obtain ⟨bp, aC, H⟩ := Zb H; obtain ⟨B, aD, H⟩ := Zb H; obtain ⟨bq, Y, H⟩ := Zb H; refine Zm (mv S rfl fun f S => ?_); have g := Zo ah g; refine ov S rfl (ZF S (Zu g) rfl rfl ZR) fun f S => mv S rfl fun f S => ov S rfl (Zj S rfl rfl (ZRb aB)) fun f S => ov S rfl (Zj S rfl rfl (Z7 aC)) fun f S => ov S rfl (Zj S rfl rfl (Z7 aD)) fun f S => ?_; obtain ⟨ai, aj⟩ : ∃ c : List Value, c = (List.replicate (B).toNat [.int .u64 ((0 : Int))]).flatten := ⟨_, rfl⟩; obtain ⟨aE, w, aF, S⟩ := ZVb ZCc S (l := B) (c := B) (Z8 Y).1 (Z8 Y).2.1 (Z8 Y).2.2.1 (Z8 Y).2.2.2 aj; have aG : Rep.rels (Za .u64) v ai (List.replicate (B).toNat ((0 : Int))) := by rw [aj]; exact ZPb (show Rep.rel (Za .u64) _ [.int .u64 ((0 : Int))] _ from (Zp (by decide))) _
  refine Zna wn rfl zl (aF rfl rfl) S fun f S => mw S rfl fun f S => Zl (Zc (aA _ _ (Zh fun _ aH => sr (mv S rfl fun f S => ov S rfl (ZF S (Zu g) rfl rfl ZR) fun f S => mv S rfl fun f S => oe ?_)))); obtain ⟨aI, aJ, aK⟩ := Zb H; refine ZO (fun f w => ∃ (C : (List Int)) (P : Option Nat) (D : Nat) (Q : Nat) (ac : List Value) (Z : Zd), C = aI ∧ Zd.le v Z ∧ St 58 I o [(5, .slice (mkA P) (D) Q)] [Loc.own P 211 1 (D) Q ac] Z f w ∧ Rep.rels (Za .u64) Z ac C ∧ D = C.length) (fun _ aL => ?_) ?_
  · have H := aJ; refine wp_block ?_; obtain ⟨br, aM, aN⟩ := Zb H; refine Zha aM (fun aO f w => ∃ (p : (List Int)) (E : Int) (aa : Option Nat) (m : Nat) (G : Nat) (e : List Value) (q : Zd), (p, E) = aO ∧ Zd.le v q ∧ St 58 I o [(1, .int .i64 (n)), (5, .slice (mkA aa) (m) G), (23, .slice W J L), (24, .int .i64 ((((Zi 18446744073709551616 a)).length : Int))), (25, .int .i64 (E))] [Loc.own aa 211 1 (m) G e] q f w ∧ Rep.rels (Za .u64) q e p ∧ m = p.length ∧ inR .i64 E) ⟨_, _, some aE, (B).toNat, (B).toNat, ai, _, rfl, (leR _), (S.fr' rfl), aG, (Zwb (x := (0 : Int))), (by decide)⟩ ?_; rintro _ f w st ⟨p, E, aa, m, G, e, q, hq, ad, S, ab, s, bs⟩ H bt aP aQ; subst hq; refine sr (ov S rfl (Zj S rfl rfl Z4) fun f S => oe (Zh fun _ aR => ?_)); rcases Zy (decide (E < (((Zi 18446744073709551616 a)).length : Int))) with R | R
    · have H := Zw H R; refine ZD S rfl R (wp_skip (Zc (aR _ _ (Zh fun _ aS => wp_block (Zh fun _ aT => ?_))))); obtain ⟨bu, ae, H⟩ := Zb H; refine Zm (mv S rfl fun f S => ?_); have g := Zo ad g; obtain ⟨_, aU, aV, bv, rfl, aW, aX⟩ := Zda g (Zk ae).2.1; obtain ⟨rfl, aY⟩ := aX; refine ov S rfl (ZS S rfl rfl ZR (Zk ae).1 (ltI (Zu g) (Zk ae).2.2.1)) fun f S => ov S rfl (Z2 S rfl Zra (S.view aW)) fun f S => mw S rfl fun f S => mw S rfl fun f S => Zl (Zc (aT _ _ (Zh fun _ aZ => ?_))); obtain ⟨bw, a0, H⟩ := Zb H; obtain ⟨d, a1, H⟩ := Zb H; obtain ⟨h, T, H⟩ := Zb H; obtain ⟨bx, a2, H⟩ := Zb H; obtain ⟨k, a3, H⟩ := Zb H; obtain ⟨bz, U, H⟩ := Zb H; refine Zma (fl := #[true, true, true, true, true, true, true, true, true, true, true, true, true, false]) Zka (by kernel_rfl) S ?_; intro ops O F w S; refine rfa O F 0 rfl rfl S (Zr S rfl) fun f S => rfa O F 1 rfl rfl S (Zr S rfl) fun f S => rfa O F 2 rfl rfl S (Zr S rfl) fun f S => rfa O F 3 rfl rfl S (Zj S rfl rfl (ZRb a0)) fun f S => rfa O F 4 rfl rfl S (Zj S rfl rfl (Z7 a1)) fun f S => ?_; obtain ⟨ak, rfl⟩ := ZNb S (j := 0) rfl (ZSb s (Zk T).2.2.2); have al := Zya ab (Zk T).2.1; obtain ⟨bA, am⟩ : ∃ c, (List.take (Za .u64).n (List.drop ((d).toNat * (Za .u64).n) e)) = c := ⟨_, rfl⟩
      rw [am] at al; obtain ⟨rfl, bB⟩ := al; refine rfa O F 5 rfl rfl S (ZS S rfl rfl ZR (Zk T).1 (ltI s (Zk T).2.2.1)) fun f S => rfa O F 6 rfl rfl S (Z2 S rfl Zra (ZEc S (j := 0) rfl am (ltN s (Zk T).2.2.2) 0 [.int .u64 (h)] rfl zl)) fun f S => rfa O F 7 rfl rfl S (Zr S rfl) fun f S => rfa O F 8 rfl rfl S (Zr S rfl) fun f S => rfa O F 9 rfl rfl S (Zj S rfl rfl (ZGc a2)) fun f S => rfa O F 10 rfl rfl S (Zj S rfl rfl (Zzd a3)) fun f S => rfa O F 11 rfl rfl S (Zj S rfl rfl ZIe) fun f S => ?_; have an := Zya ab (Zk U).2.1; obtain ⟨bC, a4⟩ : ∃ c, (List.take (Za .u64).n (List.drop ((d).toNat * (Za .u64).n) e)) = c := ⟨_, rfl⟩; rw [a4] at an; obtain ⟨rfl, bD⟩ := an; refine rfa O F 12 rfl rfl S (ZS S rfl rfl ZR (Zk U).1 (ltI s (Zk U).2.2.1)) fun f S => go1 O F 13 ?_; obtain ⟨w, a5, S⟩ := ZLb S Zra (off := 0 + (d).toNat * 1) (z := .int .u64 (orI .u64 h k)) (cs := [.int .u64 (orI .u64 h k)]) (Zxb rfl) rfl (i := 0) rfl (ZHb S (j := 0) rfl (ltN s (Zk U).2.2.2)) (by first | rfl | simp [ZPa]); have ao : Rep.rels (Za .u64) q (List.take (0 + (d).toNat * 1) e ++ [Value.int IntKind.u64 (orI .u64 h k)] ++ List.drop (0 + (d).toNat * 1 + 1) e) (p.set (d).toNat (orI .u64 h k)) := ZAb ab (Zk U).2.2.2 (show Rep.rel (Za .u64) q [.int .u64 (orI .u64 h k)] _ from (Zp (Zta _ _))) rfl rfl
      have af : m = (p.set (d).toNat (orI .u64 h k)).length := ZCb s; refine nxs [0, 1, 2, 3, 4, 5, 6, 7, 8, 9, 10, 11, 12] [] O rfl rfl (a5 rfl rfl) (⟨Zs, Z5 O F (Zc (aZ _ _ ?_))⟩); obtain ⟨bE, a6, H⟩ := Zb H; obtain ⟨bF, a7, H⟩ := Zb H; obtain ⟨r, a8, H⟩ := Zb H; obtain ⟨bG, a9, H⟩ := Zb H; obtain ⟨bH, ba, H⟩ := Zb H; obtain ⟨u, ap, H⟩ := Zb H; obtain ⟨bI, V, H⟩ := Zb H; refine Zm (mv S rfl fun f S => mv S rfl fun f S => mv S rfl fun f S => ov S rfl (Zj S rfl rfl (ZRb a6)) fun f S => ov S rfl (Zj S rfl rfl (Z7 a7)) fun f S => ov S rfl (Zj S rfl rfl (Z7 a8)) fun f S => mv S rfl fun f S => mv S rfl fun f S => ov S rfl (Zj S rfl rfl (ZGc a9)) fun f S => ov S rfl (Zj S rfl rfl (ZAa ba)) fun f S => ov S rfl (Zj S rfl rfl (Zzb ap)) fun f S => ?_); have aq := Zya ao (Zk V).2.1; obtain ⟨bJ, bb⟩ : ∃ c, (List.take (Za .u64).n (List.drop ((r).toNat * (Za .u64).n) (List.take (0 + (d).toNat * 1) e ++ [Value.int IntKind.u64 (orI .u64 h k)] ++ List.drop (0 + (d).toNat * 1 + 1) e))) = c := ⟨_, rfl⟩; rw [bb] at aq; obtain ⟨rfl, bK⟩ := aq; refine ov S rfl (ZS S rfl rfl ZR (Zk V).1 (ltI af (Zk V).2.2.1)) fun f S => ?_; obtain ⟨w, bc, S⟩ := ZLb S Zra (off := 0 + (r).toNat * 1) (z := .int .u64 (u)) (cs := [.int .u64 (u)]) (Zxb rfl) rfl (i := 0) rfl (ZHb S (j := 0) rfl (ltN af (Zk V).2.2.2)) (by first | rfl | simp [ZPa])
      have bd : Rep.rels (Za .u64) q (List.take (0 + (r).toNat * 1) ((List.take (0 + (d).toNat * 1) e ++ [Value.int IntKind.u64 (orI .u64 h k)] ++ List.drop (0 + (d).toNat * 1 + 1) e)) ++ [Value.int IntKind.u64 (u)] ++ List.drop (0 + (r).toNat * 1 + 1) ((List.take (0 + (d).toNat * 1) e ++ [Value.int IntKind.u64 (orI .u64 h k)] ++ List.drop (0 + (d).toNat * 1 + 1) e))) (((p.set (d).toNat (orI .u64 h k))).set (r).toNat u) := ZAb ao (Zk V).2.2.2 (show Rep.rel (Za .u64) q [.int .u64 (u)] _ from (Zp (ZMd aY ap))) rfl rfl; have be : m = (((p.set (d).toNat (orI .u64 h k))).set (r).toNat u).length := ZCb af; refine ZY wn rfl (bc rfl rfl) (Zl ?_); have S := S.fr' (σ' := [(1, .int .i64 (n)), (5, .slice (mkA (some ak)) (m) G), (23, .slice (some ⟨aU, aV, none⟩) J L), (24, .int .i64 ((((Zi 18446744073709551616 a)).length : Int))), (25, .int .i64 (E))]) rfl; refine Zea (Zc (aS _ _ ?_)); obtain ⟨bL, ar, H⟩ := Zb H; refine Zm (ov S rfl (Zj S rfl rfl (Z7 ar)) fun f S => mv S rfl fun f S => Zl ?_); obtain rfl := Zf H; refine aP _ rfl _ _ ⟨_, _, some ak, m, G, (List.take (0 + (r).toNat * 1) ((List.take (0 + (d).toNat * 1) e ++ [Value.int IntKind.u64 (orI .u64 h k)] ++ List.drop (0 + (d).toNat * 1 + 1) e)) ++ [Value.int IntKind.u64 (u)] ++ List.drop (0 + (r).toNat * 1 + 1) ((List.take (0 + (d).toNat * 1) e ++ [Value.int IntKind.u64 (orI .u64 h k)] ++ List.drop (0 + (d).toNat * 1 + 1) e))), _, rfl, ad, (S.fr' rfl), bd, be, (Z0 ar).2⟩
    have H := Zz H R; refine ZC S rfl R (wp_exit (ZJ ?_)); obtain rfl := Zf H; have hq := aQ _ rfl; subst hq; have H := aN; refine ZJ (Zba ?_); obtain rfl := Zf H; refine Zc (aL _ _ ⟨_, aa, m, G, e, _, rfl, (leT (leR _) ad), (S.fr' rfl), ab, s⟩)
  rintro f w ⟨C, P, D, Q, ac, Z, hq, bM, S, bf, bg⟩; subst hq; have H := aK; refine Zc (aH _ _ (Zh fun _ bh => ?_)); obtain ⟨bN, bi, H⟩ := Zb H; refine Zm (mv S rfl fun f S => ?_); obtain ⟨bO, bP, S, bj⟩ := S.pubSlice (i := 0) (A := (Za .u64)) (l := C) (ℓ' := []) rfl rfl bg bf rfl; refine opc S rfl (Zn S [.slice (mkA P) (D) Q] Zjd rfl rfl) (Zrd S.vin (show Rep.rel (Zt (Za .u64)) _ [.slice (mkA P) (D) Q] C from bj) bi) ?_; rintro _ bQ f w bR ⟨bS, rfl, au⟩ S; obtain ⟨bk, bm, bn, rfl⟩ := ZZ au; refine mw S rfl fun f S => Zl (Zc (bh _ _ (wp_ret ?_))); obtain rfl := Zf H; refine ZB S (ZK rfl (ZE S rfl)) ⟨[.slice bk bm bn], rfl, au⟩
theorem Zzh {c : World} {b : Zd} (hv : VIn b c) {d : List Value} {a : Nat} (g : Rep.rel ZA b d a) {e : List Value} {n : Int} (h : Rep.rel (Za .i64) b e n) {z : Nat} (hm : Zlc a n = some z) :
    Ret Tryz.prog 177 #[ZA.val d, (Za .i64).val e] c b (fun y v' => ∃ f, y = ZA.val f ∧ ZA.rel v' f z) :=
  left_w hv g h (Ztp hm)
theorem right_w {C : World} {g : Zd} (hv : VIn g C) {c0 : List Value} {a : Nat} (h : Rep.rel ZA g c0 a) {c1 : List Value} {n : Int} (p1 : Rep.rel (Za .i64) g c1 n) {z : Nat} (H : ZJf a n = some z) : Ret Tryz.prog 179 #[ZA.val c0, (Za .i64).val c1] C g (fun y v' => ∃ r0, y = ZA.val r0 ∧ ZA.rel v' r0 z) := by
  obtain ⟨q1, P, Q, rfl⟩ := ZZ h; obtain ⟨rfl, r4⟩ := p1; refine ZU (K := 65) (args := [.slice q1 P Q, .int .i64 (n)]) hv Tryz.func179 rfl rfl zl fun f S => ?_; unfold ZJf at H; refine sr (mw S rfl fun f S => oe (Zh fun _ ax => Zh fun _ ay => ?_)); obtain ⟨az, aA, H⟩ := Zb H; refine Zm (mv S rfl fun f S => ov S rfl (Zj S rfl rfl (ZRb aA)) fun f S => mv S rfl fun f S => ov S rfl (ZF S (Zu h) rfl rfl ZR) fun f S => ov S rfl (Zj S rfl rfl Z9a) fun f S => Zl (Zc (ay _ _ ?_))); rcases Zy (decide ((((Zi 18446744073709551616 a)).length : Int) ≤ az)) with D | D
  · have H := Zw H D; refine ZD S rfl D (sr (mw S rfl fun f S => oe (wp_ret (ZL ?_)))); obtain rfl := Zf H; refine ZB S (ZK rfl (ZE S rfl)) ⟨[.slice none 0 0], rfl, (Zff _)⟩
  have H := Zz H D; refine ZC S rfl D (wp_skip (Zc (ax _ _ (Zh fun _ aB => ?_)))); obtain ⟨bx, aC, H⟩ := Zb H; obtain ⟨k, aD, H⟩ := Zb H; obtain ⟨bz, R, H⟩ := Zb H; refine Zm (mv S rfl fun f S => ov S rfl (ZF S (Zu h) rfl rfl ZR) fun f S => mv S rfl fun f S => ov S rfl (Zj S rfl rfl (ZRb aC)) fun f S => ov S rfl (Zj S rfl rfl (ZAa aD)) fun f S => ?_); obtain ⟨ai, aj⟩ : ∃ c : List Value, c = (List.replicate (k).toNat [.int .u64 ((0 : Int))]).flatten := ⟨_, rfl⟩; obtain ⟨aE, w, aF, S⟩ := ZVb ZCc S (l := k) (c := k) (Z8 R).1 (Z8 R).2.1 (Z8 R).2.2.1 (Z8 R).2.2.2 aj; have aG : Rep.rels (Za .u64) g ai (List.replicate (k).toNat ((0 : Int))) := by rw [aj]; exact ZPb (show Rep.rel (Za .u64) _ [.int .u64 ((0 : Int))] _ from (Zp (by decide))) _
  refine Zna wn rfl zl (aF rfl rfl) S fun f S => mw S rfl fun f S => Zl (Zc (aB _ _ (Zh fun _ aH => sr (mv S rfl fun f S => ov S rfl (ZF S (Zwb (x := (0 : Int))) rfl rfl ZR) fun f S => mv S rfl fun f S => oe ?_)))); obtain ⟨aI, aJ, aK⟩ := Zb H; refine ZO (fun f w => ∃ (t : (List Int)) (E : Option Nat) (u : Nat) (G : Nat) (ac : List Value) (T : Zd), t = aI ∧ Zd.le g T ∧ St 65 C g [(5, .slice (mkA E) (u) G)] [Loc.own E 211 1 (u) G ac] T f w ∧ Rep.rels (Za .u64) T ac t ∧ u = t.length) (fun _ aL => ?_) ?_
  · have H := aJ; refine wp_block ?_; obtain ⟨bA, aM, aN⟩ := Zb H; refine Zha aM (fun aO f w => ∃ (p : (List Int)) (b : Int) (U : Option Nat) (m : Nat) (r : Nat) (d : List Value) (o : Zd), (p, b) = aO ∧ Zd.le g o ∧ St 65 C g [(0, .slice q1 P Q), (1, .int .i64 (n)), (5, .slice (mkA U) (m) r), (19, .int .i64 ((((List.replicate (k).toNat ((0 : Int)))).length : Int))), (20, .int .i64 (b))] [Loc.own U 211 1 (m) r d] o f w ∧ Rep.rels (Za .u64) o d p ∧ m = p.length ∧ inR .i64 b) ⟨_, _, some aE, (k).toNat, (k).toNat, ai, _, rfl, (leR _), (S.fr' rfl), aG, (Zwb (x := (0 : Int))), (by decide)⟩ ?_; rintro _ f w st ⟨p, b, U, m, r, d, o, hq, ad, S, ae, I, bB⟩ H bC aP aQ; subst hq; refine sr (ov S rfl (Zj S rfl rfl Z4) fun f S => oe (Zh fun _ aR => ?_)); rcases Zy (decide (b < (((List.replicate (k).toNat ((0 : Int)))).length : Int))) with J | J
    · have H := Zw H J; refine ZD S rfl J (wp_skip (Zc (aR _ _ (Zh fun _ aS => wp_block (sr (mv S rfl fun f S => mw S rfl fun f S => oe (Zh fun _ aT => ?_))))))); obtain ⟨bD, aU, H⟩ := Zb H; obtain ⟨bE, aV, H⟩ := Zb H; obtain ⟨bF, af, H⟩ := Zb H; obtain ⟨bG, aW, H⟩ := Zb H; obtain ⟨e, ak, H⟩ := Zb H; obtain ⟨bH, v, H⟩ := Zb H; refine Zm (mv S rfl fun f S => mv S rfl fun f S => mv S rfl fun f S => mv S rfl fun f S => mv S rfl fun f S => ov S rfl (Zj S rfl rfl (ZRb aU)) fun f S => ov S rfl (Zj S rfl rfl (Z7 aV)) fun f S => ?_); have h := Zo ad h; obtain ⟨_, al, am, bI, rfl, aX, aY⟩ := Zda h (Zk af).2.1; obtain ⟨rfl, aZ⟩ := aY; refine ov S rfl (ZS S rfl rfl ZR (Zk af).1 (ltI (Zu h) (Zk af).2.2.1)) fun f S => ov S rfl (Z2 S rfl Zra (S.view aX)) fun f S => mv S rfl fun f S => ov S rfl (Zj S rfl rfl (ZGc aW)) fun f S => ov S rfl (Zj S rfl rfl (Zzb ak)) fun f S => ?_; obtain ⟨ag, rfl⟩ := ZNb S (j := 0) rfl (ZSb I (Zk v).2.2.2); have an := Zya ae (Zk v).2.1; obtain ⟨bJ, a0⟩ : ∃ c, (List.take (Za .u64).n (List.drop ((b).toNat * (Za .u64).n) d)) = c := ⟨_, rfl⟩; rw [a0] at an; obtain ⟨rfl, bK⟩ := an; refine ov S rfl (ZS S rfl rfl ZR (Zk v).1 (ltI I (Zk v).2.2.1)) fun f S => ?_
      obtain ⟨w, a1, S⟩ := ZLb S Zra (off := 0 + (b).toNat * 1) (z := .int .u64 (e)) (cs := [.int .u64 (e)]) (Zxb rfl) rfl (i := 0) rfl (ZHb S (j := 0) rfl (ltN I (Zk v).2.2.2)) (by first | rfl | simp [ZPa]); have V : Rep.rels (Za .u64) o (List.take (0 + (b).toNat * 1) d ++ [Value.int IntKind.u64 (e)] ++ List.drop (0 + (b).toNat * 1 + 1) d) (p.set (b).toNat e) := ZAb ae (Zk v).2.2.2 (show Rep.rel (Za .u64) o [.int .u64 (e)] _ from (Zp (ZMd aZ ak))) rfl rfl; have B : m = (p.set (b).toNat e).length := ZCb I; refine ZY wn rfl (a1 rfl rfl) (Zl (Zc (aT _ _ (Zh fun _ a2 => ?_)))); obtain ⟨bL, a3, H⟩ := Zb H; obtain ⟨bM, a4, H⟩ := Zb H; obtain ⟨ao, a5, H⟩ := Zb H; refine Zm (mv S rfl fun f S => mv S rfl fun f S => ov S rfl (Zj S rfl rfl (ZRb a3)) fun f S => ov S rfl (Zj S rfl rfl (Z7 a4)) fun f S => ov S rfl (Zj S rfl rfl (Z7 a5)) fun f S => mv S rfl fun f S => ov S rfl (ZF S (Zu h) rfl rfl ZR) fun f S => ov S rfl (Zj S rfl rfl Z4) fun f S => Zl ?_); have S := S.fr' (σ' := [(0, .slice (some ⟨al, am, none⟩) P Q), (1, .int .i64 (n)), (5, .slice (mkA (some ag)) (m) r), (6, .int .i64 (b)), (19, .int .i64 ((((List.replicate (k).toNat ((0 : Int)))).length : Int))), (20, .int .i64 (b)), (43, .bool (decide (ao < (((Zi 18446744073709551616 a)).length : Int))))]) rfl
      refine Zc (a2 _ _ ?_); obtain ⟨a6, a7, a8⟩ := Zb H; refine ZO (fun f w => ∃ (W : (List Int)) (X : Option Nat) (L : Nat) (Y : Nat) (Z : List Value) (aa : Zd), W = a6 ∧ Zd.le o aa ∧ St 65 C g [(0, .slice (some ⟨al, am, none⟩) P Q), (1, .int .i64 (n)), (5, .slice (mkA X) (L) Y), (19, .int .i64 ((((List.replicate (k).toNat ((0 : Int)))).length : Int))), (20, .int .i64 (b))] [Loc.own X 211 1 (L) Y Z] aa f w ∧ Rep.rels (Za .u64) aa Z W ∧ L = W.length) (fun _ ap => ?_) ?_
      · have H := a7; rcases Zy (decide (ao < (((Zi 18446744073709551616 a)).length : Int))) with M | M
        · have H := Zw H M; refine ZD S rfl M ?_; obtain ⟨q, ab, H⟩ := Zb H; obtain ⟨bN, a9, H⟩ := Zb H; obtain ⟨bO, ba, H⟩ := Zb H; obtain ⟨bP, bb, H⟩ := Zb H; obtain ⟨bQ, ah, H⟩ := Zb H; obtain ⟨bR, bc, H⟩ := Zb H; obtain ⟨bS, bd, H⟩ := Zb H; obtain ⟨s, be, H⟩ := Zb H; obtain ⟨bT, N, H⟩ := Zb H; refine Zma (fl := #[true, true, true, true, true, true, true, true, true, true, true, true, true, true, true, true, true, true, false]) Zka (by kernel_rfl) S ?_; intro ops O F w S; refine rfa O F 0 rfl rfl S (Zr S rfl) fun f S => rfa O F 1 rfl rfl S (Zr S rfl) fun f S => ?_; have aq := Zya V (Zk ab).2.1; obtain ⟨bU, ar⟩ : ∃ c, (List.take (Za .u64).n (List.drop ((b).toNat * (Za .u64).n) (List.take (0 + (b).toNat * 1) d ++ [Value.int IntKind.u64 (e)] ++ List.drop (0 + (b).toNat * 1 + 1) d))) = c := ⟨_, rfl⟩; rw [ar] at aq; obtain ⟨rfl, bV⟩ := aq; refine rfa O F 2 rfl rfl S (ZS S rfl rfl ZR (Zk ab).1 (ltI B (Zk ab).2.2.1)) fun f S => rfa O F 3 rfl rfl S (Z2 S rfl Zra (ZEc S (j := 0) rfl ar (ltN B (Zk ab).2.2.2) 0 [.int .u64 (q)] rfl zl)) fun f S => rfa O F 4 rfl rfl S (Zr S rfl) fun f S => rfa O F 5 rfl rfl S (Zr S rfl) fun f S => rfa O F 6 rfl rfl S (Zr S rfl) fun f S => rfa O F 7 rfl rfl S (Zj S rfl rfl (ZRb a9)) fun f S => rfa O F 8 rfl rfl S (Zj S rfl rfl (Z7 ba)) fun f S => rfa O F 9 rfl rfl S (Zj S rfl rfl (Z7 bb)) fun f S => ?_
          obtain ⟨bW, bf, bg⟩ := Zqc h (Zk ah).2.1; obtain ⟨rfl, bX⟩ := bg; refine rfa O F 10 rfl rfl S (ZS S rfl rfl ZR (Zk ah).1 (ltI (Zu h) (Zk ah).2.2.1)) fun f S => rfa O F 11 rfl rfl S (Z2 S rfl Zra (S.view bf)) fun f S => rfa O F 12 rfl rfl S (Zr S rfl) fun f S => rfa O F 13 rfl rfl S (Zj S rfl rfl (ZGc bc)) fun f S => rfa O F 14 rfl rfl S (Zj S rfl rfl (ZAa bd)) fun f S => rfa O F 15 rfl rfl S (Zj S rfl rfl (Zzd be)) fun f S => rfa O F 16 rfl rfl S (Zj S rfl rfl ZIe) fun f S => ?_; have au := Zya V (Zk N).2.1; obtain ⟨bY, bh⟩ : ∃ c, (List.take (Za .u64).n (List.drop ((b).toNat * (Za .u64).n) (List.take (0 + (b).toNat * 1) d ++ [Value.int IntKind.u64 (e)] ++ List.drop (0 + (b).toNat * 1 + 1) d))) = c := ⟨_, rfl⟩; rw [bh] at au; obtain ⟨rfl, bZ⟩ := au; refine rfa O F 17 rfl rfl S (ZS S rfl rfl ZR (Zk N).1 (ltI B (Zk N).2.2.1)) fun f S => go1 O F 18 ?_; obtain ⟨w, bi, S⟩ := ZLb S Zra (off := 0 + (b).toNat * 1) (z := .int .u64 (orI .u64 q s)) (cs := [.int .u64 (orI .u64 q s)]) (Zxb rfl) rfl (i := 0) rfl (ZHb S (j := 0) rfl (ltN B (Zk N).2.2.2)) (by first | rfl | simp [ZPa]); have bj : Rep.rels (Za .u64) o (List.take (0 + (b).toNat * 1) ((List.take (0 + (b).toNat * 1) d ++ [Value.int IntKind.u64 (e)] ++ List.drop (0 + (b).toNat * 1 + 1) d)) ++ [Value.int IntKind.u64 (orI .u64 q s)] ++ List.drop (0 + (b).toNat * 1 + 1) ((List.take (0 + (b).toNat * 1) d ++ [Value.int IntKind.u64 (e)] ++ List.drop (0 + (b).toNat * 1 + 1) d))) (((p.set (b).toNat e)).set (b).toNat (orI .u64 q s)) := ZAb V (Zk N).2.2.2 (show Rep.rel (Za .u64) o [.int .u64 (orI .u64 q s)] _ from (Zp (Zta _ _))) rfl rfl
          have bk : m = (((p.set (b).toNat e)).set (b).toNat (orI .u64 q s)).length := ZCb B; refine nxs [0, 1, 2, 3, 4, 5, 6, 7, 8, 9, 10, 11, 12, 13, 14, 15, 16, 17] [] O rfl rfl (bi rfl rfl) (⟨Zs, Z5 O F ?_⟩); obtain rfl := Zf H; refine Zc (ap _ _ ⟨_, some ag, m, r, (List.take (0 + (b).toNat * 1) ((List.take (0 + (b).toNat * 1) d ++ [Value.int IntKind.u64 (e)] ++ List.drop (0 + (b).toNat * 1 + 1) d)) ++ [Value.int IntKind.u64 (orI .u64 q s)] ++ List.drop (0 + (b).toNat * 1 + 1) ((List.take (0 + (b).toNat * 1) d ++ [Value.int IntKind.u64 (e)] ++ List.drop (0 + (b).toNat * 1 + 1) d))), _, rfl, (leR _), (S.fr' rfl), bj, bk⟩)
        have H := Zz H M; refine ZC S rfl M (wp_skip ?_); obtain rfl := Zf H; refine Zc (ap _ _ ⟨_, some ag, m, r, (List.take (0 + (b).toNat * 1) d ++ [Value.int IntKind.u64 (e)] ++ List.drop (0 + (b).toNat * 1 + 1) d), _, rfl, (leR _), (S.fr' rfl), V, B⟩)
      rintro f w ⟨W, X, L, Y, Z, aa, hq, bm, S, bn, bo⟩; subst hq; have H := a8; refine Zea (Zc (aS _ _ ?_)); obtain ⟨b0, av, H⟩ := Zb H; refine Zm (ov S rfl (Zj S rfl rfl (Z7 av)) fun f S => mv S rfl fun f S => Zl ?_); obtain rfl := Zf H; refine aP _ rfl _ _ ⟨_, _, X, L, Y, Z, _, rfl, (leT ad bm), (S.fr' rfl), bn, bo, (Z0 av).2⟩
    have H := Zz H J; refine ZC S rfl J (wp_exit (ZJ ?_)); obtain rfl := Zf H; have hq := aQ _ rfl; subst hq; have H := aN; refine ZJ (Zba ?_); obtain rfl := Zf H; refine Zc (aL _ _ ⟨_, U, m, r, d, _, rfl, (leT (leR _) ad), (S.fr' rfl), ae, I⟩)
  rintro f w ⟨t, E, u, G, ac, T, hq, b1, S, bp, bq⟩; subst hq; have H := aK; refine Zc (aH _ _ (Zh fun _ br => ?_)); obtain ⟨b2, bs, H⟩ := Zb H; refine Zm (mv S rfl fun f S => ?_); obtain ⟨b3, b4, S, bt⟩ := S.pubSlice (i := 0) (A := (Za .u64)) (l := t) (ℓ' := []) rfl rfl bq bp rfl; refine opc S rfl (Zn S [.slice (mkA E) (u) G] Zjd rfl rfl) (Zrd S.vin (show Rep.rel (Zt (Za .u64)) _ [.slice (mkA E) (u) G] t from bt) bs) ?_; rintro _ b5 f w b6 ⟨b7, rfl, aw⟩ S; obtain ⟨bu, bv, bw, rfl⟩ := ZZ aw; refine mw S rfl fun f S => Zl (Zc (br _ _ (wp_ret ?_))); obtain rfl := Zf H; refine ZB S (ZK rfl (ZE S rfl)) ⟨[.slice bu bv bw], rfl, aw⟩
theorem right_c {c : World} {b : Zd} (hv : VIn b c) {d : List Value} {a : Nat} (h : Rep.rel ZA b d a) {e : List Value} {n : Int} (f : Rep.rel (Za .i64) b e n) {z : Nat} (hm : ZRe a n = some z) :
    Ret Tryz.prog 179 #[ZA.val d, (Za .i64).val e] c b (fun y v' => ∃ g, y = ZA.val g ∧ ZA.rel v' g z) :=
  right_w hv h f (ZKn f.2 hm)
theorem ZYn {w0 : World} {F : Zd} (hv : VIn F w0) {c0 : List Value} {a : Nat} (m : Rep.rel ZA F c0 a) {c1 : List Value} {b : Nat} (g : Rep.rel ZA F c1 b) {z : Nat × Nat} (H : ZTf a b = some z) : Ret Tryz.prog 146 #[ZA.val c0, ZA.val c1] w0 F (fun y v' => ∃ r0 r1, y = .tuple #[ZA.val r0, ZA.val r1] ∧ ZA.rel v' r0 z.1 ∧ ZA.rel v' r1 z.2) := by
  obtain ⟨R, T, U, rfl⟩ := ZZ m; obtain ⟨q4, n5, k6, rfl⟩ := ZZ g; refine ZU (K := 84) (args := [.slice R T U, .slice q4 n5 k6]) hv Tryz.func146 rfl rfl zl fun f S => ?_; unfold ZTf at H; refine sr (mw S rfl fun f S => mw S rfl fun f S => oe (Zh fun _ bb => wp_block (Zh fun _ bc => ?_))); obtain ⟨bd, be, H⟩ := Zb H; refine Zm (mv S rfl fun f S => mv S rfl fun f S => opc S rfl (Zn S [.slice R T U, .slice q4 n5 k6] Zrf rfl rfl) (ZPe S.vin m g be) ?_); rintro _ cQ f w aj ⟨cR, rfl, bf⟩ S; obtain ⟨rfl, cS⟩ := bf; refine ov S rfl (Zj S rfl rfl Z4) fun f S => mw S rfl fun f S => Zl (Zc (bc _ _ ?_)); rcases Zy (decide (bd < (0 : Int))) with V | V
  · have H := Zw H V; refine ZD S rfl V (sr (mv S rfl fun f S => mw S rfl fun f S => mw S rfl fun f S => oe (wp_ret (ZCa (ZL ?_))))); obtain rfl := Zf H; have m := Zo aj m; refine ZB S (ZEa rfl (ZE S rfl) (ZE S rfl)) ⟨[.slice none 0 0], [.slice R T U], rfl, (Zff _), m⟩
  have H := Zz H V; refine ZC S rfl V (sr (mv S rfl fun f S => ?_)); have g := Zo aj g; refine ov S rfl (ZF S (Zu g) rfl rfl ZR) fun f S => ov S rfl (Zj S rfl rfl Zfa) fun f S => mw S rfl fun f S => oe ?_; rcases Zy (((((Zi 18446744073709551616 b)).length : Int)) == ((1 : Int))) with W | W
  · have H := Zw H W; refine ZD S rfl W (Zh fun _ bg => ?_); obtain ⟨au, av, H⟩ := Zb H; obtain ⟨aw, bh, H⟩ := Zb H; refine Zm (mv S rfl fun f S => mv S rfl fun f S => ?_); obtain ⟨_, cT, cU, cV, rfl, ax, bi⟩ := Zda g (Zk av).2.1; obtain ⟨rfl, bj⟩ := bi; refine ov S rfl (ZS S rfl rfl ZR (Zk av).1 (ltI (Zu g) (Zk av).2.2.1)) fun f S => ov S rfl (Z2 S rfl Zra (S.view ax)) fun f S => ?_; have m := Zo aj m; refine opc S rfl (Zn S [.slice R T U, .int .u64 (au)] Zxk rfl rfl) (Z5j S.vin m (show Rep.rel (Za .u64) _ [.int .u64 (au)] au from (Zp bj)) bh) ?_; rintro _ cW f w bk ⟨cX, cY, rfl, ak, bm⟩ S; have ax := Atm bk ax; obtain ⟨aS, aT, aU, rfl⟩ := ZZ ak; obtain ⟨rfl, bn⟩ := bm; refine mv S rfl fun f S => ov S rfl (ZM S rfl rfl) fun f S => ov S rfl (ZM S rfl rfl) fun f S => mw S rfl fun f S => mw S rfl fun f S => Zl (Zc (bg _ _ (Zh fun _ bo => ?_))); obtain ⟨cZ, bp, H⟩ := Zb H; refine Zm (mv S rfl fun f S => mv S rfl fun f S => opc S rfl (Zn S [.int .u64 (aw.2)] Z9d rfl rfl) (Z5d S.vin (show Rep.rel (Za .u64) _ [.int .u64 (aw.2)] aw.2 from (Zp bn)) bp) ?_); rintro _ c2 f w bq ⟨c3, rfl, aV⟩ S; obtain ⟨aW, aX, aY, rfl⟩ := ZZ aV; refine mw S rfl fun f S => mw S rfl fun f S => Zl ?_; have S := S.fr' (σ' := [(4, .slice aS aT aU), (5, .slice aW aX aY)]) rfl
    refine Zc (bo _ _ (wp_ret (ZCa (ZL ?_)))); obtain rfl := Zf H; have ak := Zo bq ak; refine ZB S (ZEa rfl (ZE S rfl) (ZE S rfl)) ⟨[.slice aS aT aU], [.slice aW aX aY], rfl, ak, aV⟩
  have H := Zz H W; refine ZC S rfl W (wp_skip (Zea (Zc (bb _ _ (Zh fun _ br => ?_))))); obtain ⟨c4, bs, H⟩ := Zb H; obtain ⟨ay, az, H⟩ := Zb H; obtain ⟨k, bt, H⟩ := Zb H; refine Zm (mv S rfl fun f S => mv S rfl fun f S => ov S rfl (ZF S (Zu g) rfl rfl ZR) fun f S => ov S rfl (Zj S rfl rfl (ZAa bs)) fun f S => ?_); obtain ⟨_, bu, bv, c5, rfl, aA, bw⟩ := Zda g (Zk az).2.1; obtain ⟨rfl, bx⟩ := bw; refine ov S rfl (ZS S rfl rfl ZR (Zk az).1 (ltI (Zu g) (Zk az).2.2.1)) fun f S => ov S rfl (Z2 S rfl Zra (S.view aA)) fun f S => opc S rfl (Zn S [.int .u64 (ay)] Zvk rfl rfl) (Z9l S.vin (show Rep.rel (Za .u64) _ [.int .u64 (ay)] ay from (Zp bx)) bt) ?_; rintro _ c6 f w aB ⟨c7, rfl, bz⟩ S; have aA := Atm aB aA; obtain ⟨rfl, aC⟩ := bz; refine mw S rfl fun f S => Zl (Zc (br _ _ (Zh fun _ bA => ?_))); obtain ⟨bB, bC, H⟩ := Zb H; refine Zm (mv S rfl fun f S => mv S rfl fun f S => ?_); have g := Zo aB g; refine opc S rfl (Zn S [.slice (some ⟨bu, bv, none⟩) n5 k6, .int .i64 (k)] Zwh rfl rfl) (Zzh S.vin g (show Rep.rel (Za .i64) _ [.int .i64 (k)] k from (Zp aC)) bC) ?_; rintro _ bD f w bE ⟨c8, rfl, v⟩ S; obtain ⟨aD, aE, aF, rfl⟩ := ZZ v; refine mw S rfl fun f S => Zl (Zc (bA _ _ (Zh fun _ bF => ?_)))
  obtain ⟨X, bG, H⟩ := Zb H; obtain ⟨c9, bH, H⟩ := Zb H; obtain ⟨da, bI, H⟩ := Zb H; refine Zm ?_; obtain ⟨db, w, bJ, S⟩ := ZTa (P := Tryz.prog) (t := 30) (e := 211) S (n := 0) (cs := []) (vals := []) (sz := 1) rfl (by decide) (fun _ => by kernel_rfl); have aG : Rep.rels (Za .u64) bD [] [] := Zva; refine Zna wn rfl zl (bJ rfl) S fun f S => mv S rfl fun f S => mv S rfl fun f S => ?_; have m := Zo (leT (leT aj aB) bE) m; refine opc S rfl (Zn S [.slice R T U, .int .i64 (k)] Zwh rfl rfl) (Zzh S.vin m (show Rep.rel (Za .i64) _ [.int .i64 (k)] k from (Zp aC)) bG) ?_; rintro _ al f w aZ ⟨dc, rfl, aH⟩ S; have aG := ZP aZ aG; obtain ⟨dd, de, df, rfl⟩ := ZZ aH; have aI := S; obtain ⟨dg, dh, a0, w, bK, S, bL⟩ := ZAj (ty := 30) (A := (Za .u64)) ZCc S (i := 0) (n' := (([] : (List Int)) ++ ((Zi 18446744073709551616 X))).length) rfl aH (Zcc rfl (Zu aH)) (Z7b bH) (by decide); have bM := Zmb aG bL; refine Zna wn rfl zl (Zfc aI rfl rfl bK) S fun f S => ?_; obtain ⟨di, w, bN, S⟩ := ZTa S (n := 1) (cs := [.int .u64 ((0 : Int))]) (vals := [(0, .int .u64 ((0 : Int)))]) (sz := 1) rfl (by decide) (Zub ZCc (x := .int .u64 ((0 : Int))) (cs := [.int .u64 ((0 : Int))]) rfl rfl (by decide)); have aJ : Rep.rels (Za .u64) al [.int .u64 ((0 : Int))] [(0 : Int)] := (ZGa (Zp (by decide)) Zva)
  refine Zna wn rfl zl (bN rfl) S fun f S => ?_; have aI := S; obtain ⟨aK, aL, w, bO, S⟩ := Zgc (ty := 30) ZCc S (i := 1) (n' := ((([] : (List Int)) ++ ((Zi 18446744073709551616 X))) ++ [(0 : Int)]).length) rfl (ZBb aJ rfl) (Zyc S (j := 0) rfl) (Zkc aJ) (Zcc rfl rfl) (Z7b bI) (by decide); have bP := Zmb bM aJ; refine Zna wn rfl zl (Zfc aI rfl rfl bO) S fun f S => mw S rfl fun f S => Zl ?_; have S := S.fr' (σ' := [(8, .int .i64 (k)), (9, .slice aD aE aF), (10, .slice (mkA aK) (((([] : (List Int)) ++ ((Zi 18446744073709551616 X))) ++ [(0 : Int)]).length) aL)]) rfl; refine Zc (bF _ _ (sr (mv S rfl fun f S => ?_))); have v := Zo aZ v; refine ov S rfl (ZF S (Zu v) rfl rfl ZR) fun f S => mw S rfl fun f S => oe (Zh fun _ bQ => ?_); obtain ⟨q, bR, H⟩ := Zb H; obtain ⟨dj, am, H⟩ := Zb H; refine Zm (mv S rfl fun f S => ov S rfl (ZF S rfl rfl rfl ZR) fun f S => mv S rfl fun f S => ov S rfl (Zj S rfl rfl (ZAa bR)) fun f S => ?_); obtain ⟨aM, a1⟩ : ∃ c : List Value, c = (List.replicate (q).toNat [.int .u64 ((0 : Int))]).flatten := ⟨_, rfl⟩; obtain ⟨a2, w, bS, S⟩ := ZVb ZCc S (l := q) (c := q) (Z8 am).1 (Z8 am).2.1 (Z8 am).2.2.1 (Z8 am).2.2.2 a1; have bT : Rep.rels (Za .u64) al aM (List.replicate (q).toNat ((0 : Int))) := by rw [a1]; exact ZPb (show Rep.rel (Za .u64) _ [.int .u64 ((0 : Int))] _ from (Zp (by decide))) _
  refine Zna wn rfl zl (bS rfl rfl) S fun f S => mw S rfl fun f S => Zl (Zc (bQ _ _ (Zh fun _ bU => Zh fun _ bV => ?_))); obtain ⟨dk, a3, H⟩ := Zb H; refine Zm (mv S rfl fun f S => ov S rfl (ZF S (Zwb (x := (0 : Int))) rfl rfl ZR) fun f S => ov S rfl (Zj S rfl rfl (ZAa a3)) fun f S => mw S rfl fun f S => Zl (Zc (bV _ _ ?_))); obtain ⟨bW, bX, bY⟩ := Zb H; refine ZO (fun f w => ∃ (G : (List Int)) (I : (List Int)) (J : Option Nat) (B : Nat) (L : Nat) (an : List Value) (Y : Option Nat) (M : Nat) (Z : Nat) (aN : List Value) (aa : Zd), (G, I) = bW ∧ Zd.le al aa ∧ St 84 w0 F [(8, .int .i64 (k)), (10, .slice (mkA J) (B) L), (12, .slice (mkA Y) (M) Z)] [Loc.own J 211 1 (B) L an, Loc.own Y 211 1 (M) Z aN] aa f w ∧ Rep.rels (Za .u64) aa an G ∧ B = G.length ∧ Rep.rels (Za .u64) aa aN I ∧ M = I.length) (fun _ bZ => ?_) ?_
  · have H := bX; refine wp_block ?_; obtain ⟨dl, b0, b1⟩ := Zb H; have S := S.reorder (ℓ' := [Loc.own aK 211 1 (((([] : (List Int)) ++ ((Zi 18446744073709551616 X))) ++ [(0 : Int)]).length) aL ((([] ++ a0) ++ [.int .u64 ((0 : Int))])), Loc.own (some a2) 211 1 ((q).toNat) (q).toNat aM]) [2, 0] rfl (by decide); refine Zha b0 (fun b2 f w => ∃ (ao : (List Int)) (N : (List Int)) (d : Int) (ap : Option Nat) (C : Nat) (D : Nat) (s : List Value) (aq : Option Nat) (E : Nat) (ab : Nat) (o : List Value) (ac : Zd), (ao, N, d) = b2 ∧ Zd.le al ac ∧ St 84 w0 F [(8, .int .i64 (k)), (9, .slice aD aE aF), (10, .slice (mkA ap) (C) D), (11, .int .i64 ((((Zi 18446744073709551616 bB)).length : Int))), (12, .slice (mkA aq) (E) ab), (13, .int .i64 (d))] [Loc.own ap 211 1 (C) D s, Loc.own aq 211 1 (E) ab o] ac f w ∧ Rep.rels (Za .u64) ac s ao ∧ C = ao.length ∧ Rep.rels (Za .u64) ac o N ∧ E = N.length ∧ inR .i64 d) ⟨_, _, _, aK, ((([] : (List Int)) ++ ((Zi 18446744073709551616 X))) ++ [(0 : Int)]).length, aL, (([] ++ a0) ++ [.int .u64 ((0 : Int))]), some a2, (q).toNat, (q).toNat, aM, _, rfl, (leR _), (S.fr' rfl), bP, rfl, bT, (Zwb (x := (0 : Int))), (Z0 a3).2⟩ ?_; rintro _ f w st ⟨ao, N, d, ap, C, D, s, aq, E, ab, o, ac, hq, aO, S, ad, ae, af, ag, dm⟩ H dn b3 b4
    subst hq; refine Zh fun _ b5 => sr (mv S rfl fun f S => ov S rfl (Zj S rfl rfl Z9a) fun f S => oe ?_); rcases Zy (decide ((0 : Int) ≤ d)) with ah | ah
    · have H := Zw H ah; refine ZD S rfl ah (wp_skip (Zc (b5 _ _ (Zh fun _ b6 => wp_block ?_)))); obtain ⟨dp, b7, H⟩ := Zb H; obtain ⟨O, b8, H⟩ := Zb H; obtain ⟨dq, h, H⟩ := Zb H; obtain ⟨u, b9, H⟩ := Zb H; obtain ⟨dr, Q, H⟩ := Zb H; refine Zm (mv S rfl fun f S => mv S rfl fun f S => mv S rfl fun f S => mv S rfl fun f S => mv S rfl fun f S => mv S rfl fun f S => ov S rfl (Zj S rfl rfl (Z7 b7)) fun f S => ov S rfl (Zj S rfl rfl (Z7 b8)) fun f S => ?_); obtain ⟨aP, rfl⟩ := ZNb S (j := 0) rfl (by have := ZFc h; have := ae; omega); refine ov S rfl (ZYo S (j := 0) rfl ZR (ZFc h).1 (ZFc h).2.1 (by have := (ZFc h).2.2.1; have := ae; omega) rfl rfl rfl) fun f S => mv S rfl fun f S => ?_; obtain ⟨pre399, post400, ca, cb, cc, cd, ce, cf⟩ := Z3n S (i := 0) (lo := (d).toNat) (hi := (O).toNat) rfl (ZFc h).2.2.2.2.2.1 (by have := (ZFc h).2.2.2.2.2.2; have := ae; omega); have v := Zo aO v; refine Zrl S wn rfl zl (Zn S [.slice (some ⟨aP, (d).toNat * 1, none⟩) ((O - d).toNat) (D - (d).toNat), .slice aD aE aF] k_en178 rfl rfl) (i := 0) rfl rfl (digit_c S.vin ca cc cb (ZFc h).2.2.2.2.1 ⟨Zyp (ZFc h).1 (ZFc h).2.1 cd, ce⟩ (Zhn ad rfl (ZFc h).2.2.2.1) v b9) ?_; rintro _ a4 f w aQ ⟨⟨ds, rfl, cg⟩, ch, aR, ci, cj, a5⟩ hSf
      have ad := ZP aQ ad; have af := ZP aQ af; have a6 : ((O).toNat - (d).toNat) = u.2.length := by have := cj; have := ZFc h; omega
      have S := hSf (Loc.own (some aP) 211 1 (C) D (List.take ((d).toNat * 1) s ++ aR ++ List.drop ((O).toNat * 1) s)) rfl (cf _ aR (ZBb a5 a6) ci) ch; have ck := ZHn (p := (d).toNat) (r := (O).toNat) (sz := 1) ad a5 rfl; have cl := ZWn ae (ZFc h).2.2.2.2.2.1 (ZFc h).2.2.2.2.2.2 a6; obtain ⟨rfl, cm⟩ := cg; obtain ⟨cn, rfl⟩ := ZNb S (j := 1) rfl (ZSb ag (Zk Q).2.2.2); have a7 := Zya af (Zk Q).2.1; obtain ⟨dt, co⟩ : ∃ c, (List.take (Za .u64).n (List.drop ((d).toNat * (Za .u64).n) o)) = c := ⟨_, rfl⟩; rw [co] at a7; obtain ⟨rfl, du⟩ := a7; refine ov S rfl (ZS S rfl rfl ZR (Zk Q).1 (ltI ag (Zk Q).2.2.1)) fun f S => ?_; obtain ⟨w, cp, S⟩ := ZLb S Zra (off := 0 + (d).toNat * 1) (z := .int .u64 (u.1)) (cs := [.int .u64 (u.1)]) (Zxb rfl) rfl (i := 1) rfl (ZHb S (j := 1) rfl (ltN ag (Zk Q).2.2.2)) (by first | rfl | simp [ZPa]); have cq : Rep.rels (Za .u64) a4 (List.take (0 + (d).toNat * 1) o ++ [Value.int IntKind.u64 (u.1)] ++ List.drop (0 + (d).toNat * 1 + 1) o) (N.set (d).toNat u.1) := ZAb af (Zk Q).2.2.2 (show Rep.rel (Za .u64) a4 [.int .u64 (u.1)] _ from (Zp cm)) rfl rfl; have cr : E = (N.set (d).toNat u.1).length := ZCb ag; refine ZY wn rfl (cp rfl rfl) (Zl (Zea (Zc (b6 _ _ ?_))))
      obtain ⟨dv, a8, H⟩ := Zb H; refine Zm (mv S rfl fun f S => ov S rfl (Zj S rfl rfl (ZAa a8)) fun f S => mw S rfl fun f S => Zl ?_); obtain rfl := Zf H; refine b3 _ rfl _ _ ⟨_, _, _, some aP, C, D, (List.take ((d).toNat * 1) s ++ aR ++ List.drop ((O).toNat * 1) s), some cn, E, ab, (List.take (0 + (d).toNat * 1) o ++ [Value.int IntKind.u64 (u.1)] ++ List.drop (0 + (d).toNat * 1 + 1) o), _, rfl, (leT aO aQ), (S.fr' rfl), ck, cl, cq, cr, (Z0 a8).2⟩
    have H := Zz H ah; refine ZC S rfl ah (wp_exit (ZJ ?_)); obtain rfl := Zf H; have hq := b4 _ rfl; subst hq; have H := b1; refine ZJ (Zba ?_); obtain rfl := Zf H; refine Zc (bZ _ _ ⟨_, _, ap, C, D, s, aq, E, ab, o, _, rfl, (leT (leR _) aO), (S.fr' rfl), ad, ae, af, ag⟩)
  rintro f w ⟨G, I, J, B, L, an, Y, M, Z, aN, aa, hq, dw, S, ai, ct, cu, cv⟩; subst hq; have H := bY; refine Zc (bU _ _ (Zh fun _ cw => ?_)); obtain ⟨dx, cx, H⟩ := Zb H; obtain ⟨dy, cy, H⟩ := Zb H; obtain ⟨dz, cz, H⟩ := Zb H; refine Zm (mv S rfl fun f S => ?_); obtain ⟨dA, cA, S, cB⟩ := S.pubSlice (i := 1) (A := (Za .u64)) (l := I) (ℓ' := [Loc.own J 211 1 (B) L an]) rfl rfl cv cu rfl; have ai := ZP cA ai; refine opc S rfl (Zn S [.slice (mkA Y) (M) Z] Zjd rfl rfl) (Zrd S.vin (show Rep.rel (Zt (Za .u64)) _ [.slice (mkA Y) (M) Z] I from cB) cx) ?_; rintro _ dB f w cC ⟨dC, rfl, ar⟩ S; have ai := ZP cC ai; obtain ⟨cD, cE, cF, rfl⟩ := ZZ ar; refine mv S rfl fun f S => ?_; obtain ⟨dD, cG, S, cH⟩ := S.pubSlice (i := 0) (A := (Za .u64)) (l := G) (ℓ' := []) rfl rfl ct ai rfl; refine opc S rfl (Zn S [.slice (mkA J) (B) L] Zjd rfl rfl) (Zrd S.vin (show Rep.rel (Zt (Za .u64)) _ [.slice (mkA J) (B) L] G from cH) cy) ?_; rintro _ dE f w cI ⟨dF, rfl, a9⟩ S; obtain ⟨cJ, cK, cL, rfl⟩ := ZZ a9; refine mv S rfl fun f S => opc S rfl (Zn S [.slice cJ cK cL, .int .i64 (k)] k_en179 rfl rfl) (right_c S.vin a9 (show Rep.rel (Za .i64) _ [.int .i64 (k)] k from (Zp aC)) cz) ?_; rintro _ dG f w cM ⟨dH, rfl, ba⟩ S
  obtain ⟨cN, cO, cP, rfl⟩ := ZZ ba; refine mw S rfl fun f S => mw S rfl fun f S => Zl (Zc (cw _ _ (wp_ret ?_))); obtain rfl := Zf H; have ar := Zo (leT (leT cG cI) cM) ar; refine ZB S (ZEa rfl (ZE S rfl) (ZE S rfl)) ⟨[.slice cD cE cF], [.slice cN cO cP], rfl, ar, ba⟩
theorem ZTg {d : World} {c : Zd} (hv : VIn c d) {e : List Value} {a : Nat} (i : Rep.rel ZA c e a) {f : List Value} {b : Nat} (j : Rep.rel ZA c f b) {z : Nat × Nat} (hm : ZOc a b = some z) :
    Ret Tryz.prog 146 #[ZA.val e, ZA.val f] d c (fun y v' => ∃ g h, y = Value.tuple #[ZA.val g, ZA.val h] ∧ ZA.rel v' g z.1 ∧ ZA.rel v' h z.2) :=
  ZYn hv i j (ZBo hm)
end Go.Eng
