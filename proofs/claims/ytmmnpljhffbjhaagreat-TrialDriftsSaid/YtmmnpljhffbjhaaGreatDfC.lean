/- Lemmas towards the statement: the engine of the walks, the functions' models, laws and walks, part 3. Conditions: as each states. -/
import Derived.Lib.AppendStr
import Derived.Lib.Builder
import Derived.Lib.UnsafeStr
import Derived.Test.YtmmnpljhffbjhaaGreatProg
import Derived.Test.YtmmnpljhffbjhaaGreatDfB
set_option linter.all false
set_option maxRecDepth 100000
namespace Go.Eng
noncomputable def ZEg (r : (Int × Int)) : Option (Rat) :=
 ifb (r.2 == ((0 : Int)))
 (bnd (Zzd r.1) fun a =>
 some a)
 (bnd (Z2f r.1 r.2) fun b =>
 some b.1)
theorem ZJe {n : Nat} (h : n ≤ 18446744073709551616) : Zab n := Z5n (Nat.le_trans (ZZb (show n < 2 ^ 65 by omega)) (by decide))
theorem Zpj (n : Int) : mkRat n 1 = (n : Rat) := by
  have := Rat.mkRat_self (n : Rat)
  simpa using this
theorem Zfm {n : Int} (h1 : -9223372036854775808 ≤ n) (h2 : n ≤ 9223372036854775807) : Zeg n = some (n : Rat) := by
  unfold Zeg; rw [Zvk]; unfold ZSc ZQd; by_cases h : n < 0
  · obtain ⟨k, rfl⟩ : ∃ k : Nat, n = -(k : Int) := ⟨n.natAbs, by omega⟩; have e1 : IntKind.u64.wrap (-(IntKind.u64.wrap (-(k : Int)))) = (k : Int) := by rw [wrap_u64, wrap_u64]; omega
    rw [decide_eq_true h, ZK, e1, Ze, Ze, Int.toNat_natCast, if_pos ⟨ZJe (by omega), ZJe (by omega), by omega⟩, Ze, Zpj]; rfl
  · obtain ⟨k, rfl⟩ := Int.eq_ofNat_of_zero_le (show 0 ≤ n by omega); rw [decide_eq_false h, ZI, ZJb (by omega), Ze, Ze, Int.toNat_natCast, if_pos ⟨ZJe (by omega), ZJe (by omega), by omega⟩, Ze, Zpj]; rfl
theorem Zyn {n : Int} {z : Rat} (hn : inR .i64 n) (h : Zzd n = some z) : Zeg n = some z := by
  have := Zqb.1 hn; unfold Zzd at h; rw [Zfm (by omega) (by omega), h]
theorem ZBl (n m : Int) : sgn (decide (n < 0) != decide (m < 0)) n.natAbs = if m < 0 then -n else n := by
  have := Zdj n m; unfold Zcb at this; exact Option.some.inj this
theorem Zvo {n d : Int} {z : Rat × Int} (hn : inR .i64 n) (hd : inR .i64 d) (h : Z2f n d = some z) : ZVh n d = some z := by
  have hn := Zqb.1 hn; have hd := Zqb.1 hd; unfold Z2f at h
  cases h
  unfold ZVh Zzd; by_cases h0 : d = 0
  · subst h0; rfl
  · have e0 : (d == 0) = false := by simp [h0]
    rw [e0, ZI, if_neg h0, Ze, Ze]; unfold ZQd; rw [Rat.num_intCast, Rat.num_intCast, if_pos ⟨ZJe (by omega), ZJe (by omega), by omega⟩, Ze, ZBl, ← Zoi]
theorem rofF_eq {r : Int × Int} {z : Rat} (h : ZWd r = some z) : ZEg r = some z := by
  unfold ZWd at h
  cases h
  unfold ZEg ZAh Zzd Z2f; by_cases h0 : r.2 = 0
  · rw [if_pos h0, h0]; rfl
  · have : (r.2 == 0) = false := by simp [h0]
    rw [this, ZI, Ze, if_neg h0, if_neg h0]
end Go.Eng
namespace Go.Eng
open Go.RowKit
def Znk (P : Program) (f : FuncId) (T e : TypeId) : Prop := ∀ (B b : Nat) (bs : List Value) (s : ByteArray) (w : World), Lib.IsBuilder T e B b bs w → bs.length + s.size ≤ 140737488355328 → B ≤ w.heap.size →
  Calls P f #[.pointer (some ⟨b, 0, none⟩), .string s] w fun x w' => x = .returned (.tuple #[.int .i64 s.size, .nilIface]) ∧ (Lib.BuilderAt T e B b (.pointer (some ⟨b, 0, none⟩)) (bs ++ Lib.strCells s) w' ∧ Below B w w')
def Tells (P : Program) (f : FuncId) (T e : TypeId) : Prop := ∀ (B b : Nat) (l : List UInt8) (w : World), Lib.IsBuilder T e B b (Lib.byteCells l) w → B ≤ w.heap.size →
  Calls P f #[.pointer (some ⟨b, 0, none⟩)] w fun x w' => x = .returned (.string ⟨l.toArray⟩) ∧ Below B w w'
structure Bld (T e b : Nat) (w0 : Base) (v : Zd) (m : List UInt8) (w : World) : Prop where
  is : Lib.IsBuilder T e b b (Lib.byteCells m) w
  old : ∀ k o, v k = some o → k < b
  base : w0.wd.heap.size ≤ b
  lt : b ≤ w.heap.size
variable {P : Program} {K : Nat} {w0 : Base} {v0 : Zd} {σ : List (Nat × Value)} {ℓ : List Loc} {v : Zd} {a : Act} {w : World}
variable {ops : Array Oper} {Q : Exit → Act → World → Prop} {rest : List Oper}
theorem St.below {w' : World} {b : Nat} (h : St K w0 v0 σ [] v a w) (x : Below b w w') (hv : ∀ k o, v k = some o → k < b) (hb : w0.wd.heap.size ≤ b) : St K w0 v0 σ [] v a w' :=
  ⟨h.size, h.dfr, h.fr, ⟨x.os.trans h.ext.os, x.tape.trans h.ext.tape, x.output.trans h.ext.output, Nat.le_trans h.ext.size x.size, fun k hk hn => (x.block k (by omega)).trans (h.ext.block k hk hn)⟩,
    ⟨h.vst.le, fun k o e => (x.block k (hv k o e)).trans (h.vst.vin k o e), h.vst.old⟩, fun e he => by simp at he, List.nodup_nil⟩
theorem op_newB {o : Oper} {d T : Nat} (e : Nat) (hS : St K w0 v0 σ ℓ v a w) (hw : Region.wanted o (yielded ops a.tmps) = true) (hd : o.dst = some d) (hK : d < K)
    (hrun : (execOp a.eval o).run P w = .ok (.value (.pointer (some ⟨w.heap.size, 0, none⟩))) (w.alloc (.cells #[.pointer none, .slice none 0 0] T)))
    (h : ∀ b a w, St K w0 v0 ((d, .pointer (some ⟨b, 0, none⟩)) :: σ) [] v a w → Bld T e b w0 v [] w → wpList P ops Q rest a w) : wpList P ops Q (o :: rest) a w :=
  Znd hw (Zie hrun (by
    rw [hd]
    have h1 : St K w0 v0 σ [] v a w := hS.drop (List.nil_sublist _)
    have h2 : Ext w (w.alloc (.cells #[.pointer none, .slice none 0 0] T)) := Ext.alloc w _
    exact h w.heap.size _ _ ((h1.step h2 (VStep.ext h1.vin h2)).put _ hK) ⟨Lib.fresh_isBuilder T e w, fun k o hk => h1.vin.lt hk, h1.ext.size, h2.size⟩))
theorem ZWo (l l' : List UInt8) : Lib.byteCells l ++ Lib.strCells (Zha l') = Lib.byteCells (l ++ l') := by simp [Lib.byteCells, Lib.strCells, Zha]
theorem ZZn {o : Oper} {d f T e b : Nat} {m s : List UInt8} (hW : Znk P f T e) (hB : Bld T e b w0 v m w) (hl : (m ++ s).length ≤ 140737488355328) (hS : St K w0 v0 σ [] v a w) (hw : Region.wanted o (yielded ops a.tmps) = true) (hd : o.dst = some d) (hK : d < K)
    (hrun : (execOp a.eval o).run P w = .ok (.enter f #[.pointer (some ⟨b, 0, none⟩), .string (Zha s)]) w)
    (h : ∀ a w, St K w0 v0 ((d, .tuple #[.int .i64 s.length, .nilIface]) :: σ) [] v a w → Bld T e b w0 v (m ++ s) w → wpList P ops Q rest a w) : wpList P ops Q (o :: rest) a w := by
  have hc := hW b b (Lib.byteCells m) (Zha s) w hB.is (by rw [Lib.byteCells_length, ZMd, ← List.length_append]; exact hl) hB.lt; refine Znd hw (Zvf hrun (Calls.mono hc fun x w' ⟨e1, e2, e3⟩ => ⟨_, e1, ?_⟩)); rw [hd]; rw [ZMd] at *; rw [ZWo] at e2; exact h _ _ ((hS.below e3 hB.old hB.base).put _ hK) ⟨.inr e2, hB.old, hB.base, Nat.le_trans hB.lt e3.size⟩
theorem op_tell {o : Oper} {d f T e b : Nat} {m : List UInt8} (hT : Tells P f T e) (hB : Bld T e b w0 v m w) (hS : St K w0 v0 σ [] v a w) (hw : Region.wanted o (yielded ops a.tmps) = true) (hd : o.dst = some d) (hK : d < K)
    (hrun : (execOp a.eval o).run P w = .ok (.enter f #[.pointer (some ⟨b, 0, none⟩)]) w)
    (h : ∀ a w, St K w0 v0 ((d, .string (Zha m)) :: σ) [] v a w → wpList P ops Q rest a w) : wpList P ops Q (o :: rest) a w := by
  have hc := hT b b m w hB.is hB.lt; refine Znd hw (Zvf hrun (Calls.mono hc fun x w' ⟨e1, e3⟩ => ⟨_, e1, ?_⟩)); rw [hd]; exact h _ _ ((hS.below e3 hB.old hB.base).put _ hK)
def ZCf (l : List UInt8) : Option Unit := if l.length ≤ 140737488355328 then some () else none
theorem ZRl {l : List UInt8} {u : Unit} (h : ZCf l = some u) : l.length ≤ 140737488355328 := by
  unfold ZCf at h; split at h
  · assumption
  · cases h
theorem Z8n {q : Option Nat} {b o : Nat} (h : mkA q = some ⟨b, o, none⟩) : q = some b ∧ o = 0 := by
  cases q with
  | none => cases h
  | some c => cases h; exact ⟨rfl, rfl⟩
noncomputable def Zkg (a : Nat) : Option ((List UInt8)) :=
 bnd (bnd (Z4 (fun s : Nat × (List (List UInt8)) => match s with
 | (h, c) =>
 (ifb (decide ((0 : Int) < (((Zh 18446744073709551616 h)).length : Int)))
 (bnd (Zrd h ((10000000000000000000 : Int))) fun d =>
 bnd (ZZe d.2) fun b =>
 bnd (ifb (decide ((0 : Int) < (((Zh 18446744073709551616 d.1)).length : Int)))
 (bnd (chk .i64 (((19 : Int)) - ((b.length : Int)))) fun m =>
 bnd (ZVe (([48] : List UInt8)) m) fun i =>
 bnd (ZEc (i ++ b)) fun r =>
 some ((i ++ b)))
 (some b))
 (fun (j : (List UInt8)) =>
 (bnd (ZRa 16 (c ++ [j])) fun t =>
 some (.inl ((d.1, (c ++ [j])))))))
 (some (.inr c)))) Zca ((a, ([] : (List (List UInt8))))))
 (fun (n : (List (List UInt8))) =>
 (some n)))
 (fun (e : (List (List UInt8))) =>
 (ifb (((e.length : Int)) == ((0 : Int)))
 (some (([48] : List UInt8)))
 (bnd (chk .i64 (((e.length : Int)) - ((1 : Int)))) fun o =>
 bnd (bnd (Z4 (fun s : (List UInt8) × Int => match s with
 | (f, g) =>
 (ifb (decide ((0 : Int) ≤ g))
 (bnd (idx e g) fun k =>
 bnd (ZCf (f ++ k)) fun u =>
 bnd (chk .i64 (g - ((1 : Int)))) fun p =>
 some (.inl (((f ++ k), p))))
 (some (.inr f)))) Zca ((([] : List UInt8), o)))
 (fun (q : (List UInt8)) =>
 (some q)))
 (fun (l : (List UInt8)) =>
 (bnd (ZEc l) fun v =>
 some l)))))
noncomputable def ZOh (x : Rat) : Option ((List UInt8)) :=
 bnd (ZYe ((x.num).natAbs)) fun a =>
 bnd (ifb (decide (x.num < 0))
 (bnd (ZEc ((([45] : List UInt8)) ++ a)) fun e =>
 some (((([45] : List UInt8)) ++ a)))
 (some a))
 (fun (b : (List UInt8)) =>
 (bnd (ifb (decide ((0 : Int) < (((Zh 18446744073709551616 ((ZOa x.den)))).length : Int)))
 (bnd (ZYe ((ZOa x.den))) fun c =>
 bnd (ZEc ((([47] : List UInt8)) ++ c)) fun f =>
 bnd (ZEc (b ++ (((([47] : List UInt8)) ++ c)))) fun g =>
 some ((b ++ (((([47] : List UInt8)) ++ c)))))
 (some b))
 (fun (d : (List UInt8)) =>
 (some d))))
theorem ZWj (n : Nat) : (ZHa n).length ≤ bl n := by
  induction n using Nat.strongRecOn with
  | ind n ih =>
    by_cases h : n = 0
    · subst h; rw [ZXc]; simp
    · rw [Zae h, List.length_append]; have h1 := ih (n / 10) (by omega); have h2 : bl (n / 10) + 1 ≤ bl n := by
        rw [ZUi h]; exact Nat.add_le_add_right (Zhd (by omega)) 1
      simp only [List.length_cons, List.length_nil]; omega
theorem Zon {n k : Nat} (h : n < 10 ^ k) : (ZHa n).length ≤ k := by
  induction k generalizing n with
  | zero => simp at h; subst h; rw [ZXc]; simp
  | succ k ih =>
    by_cases h0 : n = 0
    · subst h0; rw [ZXc]; simp
    · rw [Zae h0, List.length_append]; have := ih (n := n / 10) (by rw [Nat.pow_succ] at h; omega); simp only [List.length_cons, List.length_nil]; omega
theorem Zmm {q : Nat} (hq : q ≠ 0) : ∀ (k r : Nat), r < 10 ^ k → ZHa (q * 10 ^ k + r) = ZHa q ++ (List.replicate (k - (ZHa r).length) 48 ++ ZHa r) := by
  intro k
  induction k with
  | zero => intro r h; simp at h; subst h; rw [ZXc]; simp
  | succ k ih =>
    intro r h; rw [Nat.pow_succ] at h; have hn : q * 10 ^ (k + 1) + r ≠ 0 := by
      have : 0 < q * 10 ^ (k + 1) := Nat.mul_pos (by omega) (Nat.pow_pos (by omega)); omega
    have e1 : (q * 10 ^ (k + 1) + r) / 10 = q * 10 ^ k + r / 10 := by rw [Nat.pow_succ, ← Nat.mul_assoc]; generalize q * 10 ^ k = p; omega
    have e2 : (q * 10 ^ (k + 1) + r) % 10 = r % 10 := by rw [Nat.pow_succ, ← Nat.mul_assoc]; generalize q * 10 ^ k = p; omega
    rw [Zae hn, e1, e2, ih (r / 10) (by omega)]; by_cases h0 : r = 0
    · subst h0; simp only [Nat.zero_div, ZXc, List.length_nil, Nat.sub_zero, List.append_nil, List.append_assoc]; congr 1; rw [List.replicate_succ']; rfl
    · rw [Zae h0, List.length_append]; simp only [List.length_cons, List.length_nil, List.append_assoc]; rw [show k + 1 - ((ZHa (r / 10)).length + (0 + 1)) = k - (ZHa (r / 10)).length by omega]
theorem ZKf {l : List UInt8} (h : l.length ≤ 140737488355328) : ZEc l = some () := by unfold ZEc; rw [if_pos (by unfold maxLen; omega)]
theorem Zjm {n : Nat} : ZHa n = [] ↔ n = 0 := by
  constructor
  · intro h; rcases Nat.eq_zero_or_pos n with h0 | h0
    · exact h0
    · rw [Zae (by omega)] at h; simp at h
  · rintro rfl; exact ZXc
theorem ZYn (r : List (List UInt8)) (j : Nat) : ((r.drop j).reverse.flatten).length ≤ r.reverse.flatten.length := by
  have h : r.reverse.flatten = (r.drop j).reverse.flatten ++ (r.take j).reverse.flatten := by
    rw [← List.flatten_append, ← List.reverse_append, List.take_append_drop]
  rw [h, List.length_append]; omega
theorem Zkl (c : UInt8) : ∀ k : Nat, (List.replicate k [c]).flatten = List.replicate k c
  | 0 => rfl
  | k + 1 => by rw [List.replicate_succ, List.flatten_cons, Zkl c k, List.replicate_succ]; rfl
theorem text_eq {a : Nat} (ha : okN a) : Zkg a = some (Zrc a) := by
  unfold Zkg; have hbl := Zij ha; have hda := ZWj a; rw [ZPa]; refine Z3a (fun s : Nat × List (List UInt8) => okN s.1 ∧ ZHa s.1 ++ s.2.reverse.flatten = ZHa a ∧ bl s.1 + s.2.length ≤ bl a) (fun s => bl s.1) (fun r : List (List UInt8) => r.reverse.flatten = ZHa a ∧ r.length ≤ bl a ∧ (a ≠ 0 → r ≠ [])) ⟨ha, by simp, by simp⟩ (ZLa (by simp only; omega)) ?_ ?_
  · rintro ⟨x, s⟩ ⟨hx, he, hl⟩; simp only at hx he hl ⊢; by_cases h0 : x = 0
    · right; subst h0; rw [ZJa, show decide ((0 : Int) < (([] : List Int).length : Int)) = false from rfl, ZI]; rw [ZXc, List.nil_append] at he; refine ⟨_, rfl, he, by omega, fun h1 h2 => ?_⟩; subst h2; exact h1 (Zjm.1 he.symm)
    · left; have hpos := List.length_pos_iff.2 ((Zqc (n := x) (B := 18446744073709551616) (by decide)).2 h0); have e1 : Zrd x (10000000000000000000 : Int) = some (x / 10000000000000000000, ((x % 10000000000000000000 : Nat) : Int)) := by
        unfold Zrd; rw [if_pos ⟨hx, by omega⟩]; rfl
      have e2 : ZZe ((x % 10000000000000000000 : Nat) : Int) = some (ZHa (x % 10000000000000000000)) := by unfold ZZe; rw [Int.toNat_natCast]
      rw [decide_eq_true (show (0 : Int) < ((Zh 18446744073709551616 x).length : Int) by omega), ZK, e1, Ze]; simp only; rw [e2, Ze]; have hr : (ZHa (x % 10000000000000000000)).length ≤ 19 := Zon (k := 19) (Nat.mod_lt _ (by decide)); have hb2 : bl (x / 10000000000000000000) + 1 ≤ bl x := by
        rw [ZUi h0]; exact Nat.add_le_add_right (Zhd (by omega)) 1
      have hsplit : ∃ p : List UInt8, ifb (decide ((0 : Int) < ((Zh 18446744073709551616 (x / 10000000000000000000)).length : Int))) (bnd (chk .i64 (19 - ((ZHa (x % 10000000000000000000)).length : Int))) fun y218 => bnd (ZVe [48] y218) fun y220 => bnd (ZEc (y220 ++ ZHa (x % 10000000000000000000))) fun y227 => some (y220 ++ ZHa (x % 10000000000000000000))) (some (ZHa (x % 10000000000000000000))) = some p ∧ ZHa (x / 10000000000000000000) ++ p = ZHa x := by
        by_cases hq : x / 10000000000000000000 = 0
        · refine ⟨_, by rw [hq, ZJa]; rfl, ?_⟩; rw [hq, ZXc, List.nil_append]; congr 1; omega
        · have hpos := List.length_pos_iff.2 ((Zqc (n := x / 10000000000000000000) (B := 18446744073709551616) (by decide)).2 hq); obtain ⟨k, hk⟩ : ∃ k, k = 19 - (ZHa (x % 10000000000000000000)).length := ⟨_, rfl⟩; have e3 : chk .i64 (19 - ((ZHa (x % 10000000000000000000)).length : Int)) = some (k : Int) := by rw [show (19 - ((ZHa (x % 10000000000000000000)).length : Int)) = (k : Int) by omega, Z2a (by omega)]
          have e4 : ZVe [48] (k : Int) = some (List.replicate k 48) := by
            unfold ZVe; rw [if_pos ⟨by omega, by simp; omega⟩, Int.toNat_natCast, Zkl]
          refine ⟨List.replicate k 48 ++ ZHa (x % 10000000000000000000), ?_, ?_⟩
          · rw [decide_eq_true (by omega), ZK, e3, Ze, e4, Ze, ZKf (by simp; omega), Ze]
          · have := Zmm hq 19 (x % 10000000000000000000) (Nat.mod_lt _ (by decide)); rw [show x / 10000000000000000000 * 10 ^ 19 + x % 10000000000000000000 = x by omega] at this; rw [this, hk]
      obtain ⟨p, ep, hp⟩ := hsplit; rw [ep, Ze, Zje (by simp; omega), Ze]; refine ⟨_, rfl, ⟨Ztg (Nat.div_le_self _ _) hx, ?_, by simp; omega⟩, by simp only; omega⟩; simp only [List.reverse_append, List.reverse_cons, List.reverse_nil, List.nil_append, List.singleton_append, List.flatten_cons]; rw [← List.append_assoc, hp, he]
  · rintro r ⟨hr, hl, hne⟩; rw [Ze]; by_cases h0 : a = 0
    · subst h0; have : r = [] := by
        have := hl; simp [bl] at this; exact this
      subst this; rfl
    · have hne := hne h0; have hpos : 0 < r.length := List.length_pos_iff.2 hne; have e1 : ((r.length : Int) == 0) = false := beq_false_of_ne (by omega); rw [e1, ZI, Z8 (by omega) (by omega), Ze, ZPa]; unfold Zrc; rw [if_neg h0]; refine Z3a (fun s : List UInt8 × Int => ∃ k : Nat, s.2 = (k : Int) - 1 ∧ k ≤ r.length ∧ s.1 = (r.drop k).reverse.flatten) (fun s => (s.2 + 1).toNat) (fun t : List UInt8 => t = ZHa a) ⟨r.length, rfl, by omega, by simp⟩ (ZLa (by simp only; omega)) ?_ ?_
      · rintro ⟨s, i⟩ ⟨k, hi, hk, hs⟩; simp only at hi hs ⊢; subst hi hs; by_cases hk0 : k = 0
        · right; subst hk0; rw [show decide ((0 : Int) ≤ ((0 : Nat) : Int) - 1) = false from rfl, ZI]; exact ⟨_, rfl, by rw [List.drop_zero]; exact hr⟩
        · left; obtain ⟨j, rfl⟩ : ∃ j, k = j + 1 := ⟨k - 1, by omega⟩; have ej : ((j + 1 : Nat) : Int) - 1 = (j : Int) := by omega
          have hj : j < r.length := by omega
          have hnew : (r.drop (j + 1)).reverse.flatten ++ r[j] = (r.drop j).reverse.flatten := by
            rw [List.drop_eq_getElem_cons hj, List.reverse_cons, List.flatten_append]; simp
          have hlen : ((r.drop j).reverse.flatten).length ≤ r.reverse.flatten.length := ZYn r j; rw [hr] at hlen; have e2 : ZCf ((r.drop (j + 1)).reverse.flatten ++ r[j]) = some () := by unfold ZCf; rw [if_pos (by rw [hnew]; omega)]
          rw [ej, decide_eq_true (show (0 : Int) ≤ (j : Int) by omega), ZK, Z3 hj, Ze, e2, Ze, Z8 (by omega) (by omega), Ze]; exact ⟨_, rfl, ⟨j, rfl, by omega, hnew⟩, by simp⟩
      · rintro t rfl; rw [Ze, ZKf (by omega), Ze]
theorem ZAo {n : Nat} {z : List UInt8} (h : ZYe n = some z) : Zkg n = some z := by
  unfold ZYe at h; split at h
  · rename_i hh; rw [text_eq hh, h]
  · cases h
theorem ZYk {n : Nat} (h : bl n ≤ 4398046511104) : (Zrc n).length ≤ 4398046511104 := by
  unfold Zrc; split
  · simp
  · have := ZWj n; omega
theorem Zpm {x : Rat} {z : List UInt8} (h : Zqe x = some z) : ZOh x = some z := by
  unfold Zqe at h; split at h
  · rename_i hh; obtain ⟨h1, h2⟩ := hh
    cases h
    unfold ZOh ZYe; have l1 := ZYk (n := x.num.natAbs) (by omega); have l2 := ZYk (n := x.den) (by omega); rw [if_pos (ZQa (by omega)), Ze]; have e1 : ifb (decide (x.num < 0)) (bnd (ZEc ([45] ++ Zrc x.num.natAbs)) fun y80 => some (([45] : List UInt8) ++ Zrc x.num.natAbs)) (some (Zrc x.num.natAbs)) = some ((if x.num < 0 then [45] else []) ++ Zrc x.num.natAbs) := by
      by_cases h : x.num < 0
      · rw [decide_eq_true h, ZK, ZKf (by simp; omega), Ze, if_pos h]
      · rw [decide_eq_false h, ZI, if_neg h]; rfl
    rw [e1, Ze]; unfold txtQ; have l3 : ((if x.num < 0 then [45] else []) ++ Zrc x.num.natAbs : List UInt8).length ≤ 4398046511105 := by
      rw [List.length_append]; split <;> simp <;> omega
    generalize ((if x.num < 0 then [45] else []) ++ Zrc x.num.natAbs : List UInt8) = s at *; by_cases hd : x.den = 1
    · rw [hd]; rw [show ZOa 1 = 0 from rfl, ZJa]; simp [ifb, bnd]
    · have e2 : ZOa x.den = x.den := by unfold ZOa; rw [if_neg hd]
      have hpos := List.length_pos_iff.2 ((Zqc (n := x.den) (B := 18446744073709551616) (by decide)).2 x.den_nz); rw [e2, decide_eq_true (by omega), ZK, if_pos (ZQa (by omega)), Ze, ZKf (by simp; omega), Ze, ZKf (by simp; omega), Ze, Ze, if_neg hd]; rfl
  · cases h
noncomputable def Z5g (x : Rat) : Option (Bool) :=
 bnd (Zod x) fun a =>
 some (decide (a ≤ (0 : Int)))
noncomputable def ZNg (l : (List Rat)) (g : Unit) : Option (Int) :=
 bnd (bnd (Z4 (fun s : Int => match s with
 | a =>
 (ifb (decide (a < (l.length : Int)))
 (bnd (idx l a) fun b =>
 bnd (Z5g b) fun c =>
 ifb (c)
 (some (.inr ((.inl a))))
 (bnd (chk .i64 (a + ((1 : Int)))) fun d =>
 some (.inl d)))
 (some (.inr ((.inr (()))))))) Zca ((0 : Int)))
 (fun (p : (Int) ⊕ (Unit)) => match p with
 | .inl e =>
 (some ((.inr e)))
 | .inr (()) =>
 (some ((.inl (()))))))
 (fun (p : (Unit) ⊕ (Int)) => match p with
 | .inl (()) =>
 (some ((-1 : Int)))
 | .inr f =>
 (some f))
noncomputable def Zjg (l : (List Rat)) (g : Unit) : Option (Bool) :=
 bnd (ZNg l (())) fun a =>
 some (decide ((0 : Int) ≤ a))
noncomputable def ZSd (l : (List Rat)) : Option (Bool) :=
 bnd (Zjg l (())) fun a =>
 some (!(a))
noncomputable def Z6i (t : (Rat × (List Rat))) : Option (Int) :=
 bnd (ZSd ([t.1])) fun b =>
 ifb (!(b))
 (some ((1 : Int)))
 (bnd (ifb (((t.2.length : Int)) == ((0 : Int)))
 (some true)
 (some (decide ((16 : Int) ≤ (t.2.length : Int)))))
 (fun (c : Bool) =>
 (ifb (c)
 (some ((4 : Int)))
 (bnd (bnd (Z4 (fun s : Int => match s with
 | a =>
 (ifb (decide (a < (t.2.length : Int)))
 (bnd (idx t.2 a) fun d =>
 bnd (ifb (decide ((0 : Int) < a))
 (bnd (chk .i64 (a - ((1 : Int)))) fun e =>
 bnd (idx t.2 e) fun f =>
 bnd (ZFd d f) fun g =>
 some (decide (g ≤ (0 : Int))))
 (some false))
 (fun (h : Bool) =>
 (ifb (h)
 (some (.inr ((.inl ((7 : Int))))))
 (bnd (chk .i64 (a + ((1 : Int)))) fun i =>
 some (.inl i)))))
 (some (.inr ((.inr (()))))))) Zca ((0 : Int)))
 (fun (p : (Int) ⊕ (Unit)) => match p with
 | .inl j =>
 (some ((.inr j)))
 | .inr (()) =>
 (some ((.inl (()))))))
 (fun (p : (Unit) ⊕ (Int)) => match p with
 | .inl (()) =>
 (some ((0 : Int)))
 | .inr k =>
 (some k))))))
noncomputable def Z5h (y : Rat) (r : Rat) : Option (Bool) :=
 bnd (ZFd y r) fun a =>
 some (decide ((0 : Int) ≤ a))
noncomputable def Zmi (l : (List Rat)) (g : Rat) : Option (Int) :=
 bnd (bnd (Z4 (fun s : Int => match s with
 | a =>
 (ifb (decide (a < (l.length : Int)))
 (bnd (idx l a) fun b =>
 bnd (Z5h b g) fun c =>
 ifb (c)
 (some (.inr ((.inl a))))
 (bnd (chk .i64 (a + ((1 : Int)))) fun d =>
 some (.inl d)))
 (some (.inr ((.inr (()))))))) Zca ((0 : Int)))
 (fun (p : (Int) ⊕ (Unit)) => match p with
 | .inl e =>
 (some ((.inr e)))
 | .inr (()) =>
 (some ((.inl (()))))))
 (fun (p : (Unit) ⊕ (Int)) => match p with
 | .inl (()) =>
 (some ((-1 : Int)))
 | .inr f =>
 (some f))
noncomputable def ZOi (t : (Rat × (List Rat))) (x : Rat) : Option (Int) :=
 bnd (ZVg x t.1) fun b =>
 bnd (Zmi t.2 b.1) fun a =>
 ifb (decide (a < (0 : Int)))
 (some ((t.2.length : Int)))
 (some a)
noncomputable def ZHi (t : (Rat × (List Rat))) (x : Rat) : Option (Int × Int) :=
 bnd (Z6i ((t.1, t.2))) fun a =>
 ifb (a != ((0 : Int)))
 (some (((0 : Int), a)))
 (bnd (ZOi ((t.1, t.2)) x) fun b =>
 some ((b, (0 : Int))))
noncomputable def Zbi (d : ((Int × Int) × (Int × Int) × (Int × Int))) : Option ((Rat × Rat × Rat) × (Rat × Rat × Rat)) :=
 bnd (Ztd ((d.1.1, d.1.2))) fun a =>
 bnd (Ztd ((d.2.1.1, d.2.1.2))) fun b =>
 bnd (Ztd ((d.2.2.1, d.2.2.2))) fun c =>
 bnd (ZWd ((d.1.1, d.1.2))) fun e =>
 bnd (ZWd ((d.2.1.1, d.2.1.2))) fun f =>
 bnd (ZWd ((d.2.2.1, d.2.2.2))) fun g =>
 some (((a, b, c), (e, f, g)))
noncomputable def Zgd (x : Rat) (y : Rat) : Option (Rat) :=
 bnd (ZTc x y) fun a =>
 some a.1
noncomputable def Z3b (n : Int) : Option (Rat) :=
 bnd (Z1b n) fun a =>
 some a
noncomputable def ZQi (d : (Rat × Rat × Rat)) : Option (Bool) :=
 bnd (ZSd ([d.1, d.2.1, d.2.2])) fun a =>
 some a
noncomputable def Zri (d : (Rat × Rat × Rat)) (x : Rat) (y : Rat) : Option (Rat × Int) :=
 bnd (ZQi ((d.1, d.2.1, d.2.2))) fun a =>
 ifb (!(a))
 (some (((0 : Rat), (1 : Int))))
 (bnd (Zsc x y) fun b =>
 bnd (Z3b ((1 : Int))) fun c =>
 bnd (Zgd d.2.1 d.1) fun e =>
 bnd (Z7b c e) fun f =>
 bnd (ZOb b f) fun g =>
 some ((g, (0 : Int))))
noncomputable def ZSg (i : Int) (k : Int) : Option (Rat) :=
 ifb (i == k)
 (bnd (Z3b ((1 : Int))) fun a =>
 some a)
 (some ((0 : Rat)))
noncomputable def Zcj (t : (List (List Int))) (n : Int) (g : Unit) : Option (Rat × Rat) :=
 bnd (bnd (mk 8 ((t.length : Int)) ((t.length : Int))) fun an =>
 bnd (mk 8 ((t.length : Int)) ((t.length : Int))) fun ao =>
 some (((List.replicate ((t.length : Int)).toNat ((0 : Int))), (List.replicate ((t.length : Int)).toNat ((0 : Int))))))
 (fun (p : (List Int) × (List Int)) => match p with
 | (u, v) =>
 (bnd (bnd (Z4 (fun s : (List Int) × (List Int) × Int => match s with
 | (h, i, a) =>
 (ifb (decide (a < (t.length : Int)))
 (bnd (idx t a) fun j =>
 bnd (bnd (Z4 (fun s : (List Int) × (List Int) × Int => match s with
 | (e, f, b) =>
 (ifb (decide (b < (j.length : Int)))
 (bnd (idx j b) fun k =>
 bnd (idx e a) fun w =>
 bnd (chk .i64 (w + k)) fun x =>
 bnd (idx e a) fun ap =>
 bnd (idx f b) fun y =>
 bnd (chk .i64 (y + k)) fun z =>
 bnd (idx f b) fun aq =>
 bnd (chk .i64 (b + ((1 : Int)))) fun A =>
 some (.inl (((e.set (a).toNat x), (f.set (b).toNat z), A))))
 (some (.inr ((e, f)))))) Zca ((h, i, (0 : Int))))
 (fun (p : (List Int) × (List Int)) => match p with
 | (B, C) =>
 (some ((B, C)))))
 (fun (p : (List Int) × (List Int)) => match p with
 | (D, E) =>
 (bnd (chk .i64 (a + ((1 : Int)))) fun F =>
 some (.inl ((D, E, F))))))
 (some (.inr ((h, i)))))) Zca ((u, v, (0 : Int))))
 (fun (p : (List Int) × (List Int)) => match p with
 | (G, H) =>
 (some ((G, H)))))
 (fun (p : (List Int) × (List Int)) => match p with
 | (I, J) =>
 (bnd (bnd (Z4 (fun s : Rat × Rat × Int => match s with
 | (l, m, c) =>
 (ifb (decide (c < (t.length : Int)))
 (bnd (idx t c) fun o =>
 bnd (bnd (Z4 (fun s : Rat × Rat × Int => match s with
 | (q, r, d) =>
 (ifb (decide (d < (o.length : Int)))
 (bnd (idx o d) fun K =>
 bnd (ZSg c d) fun L =>
 bnd (Z3b K) fun M =>
 bnd (ZOb L M) fun N =>
 bnd (Z7b q N) fun O =>
 bnd (ZSg c d) fun P =>
 bnd (idx I c) fun Q =>
 bnd (Z3b Q) fun R =>
 bnd (ZOb P R) fun S =>
 bnd (idx J d) fun T =>
 bnd (Z3b T) fun U =>
 bnd (ZOb S U) fun V =>
 bnd (Z7b r V) fun W =>
 bnd (chk .i64 (d + ((1 : Int)))) fun X =>
 some (.inl ((O, W, X))))
 (some (.inr ((q, r)))))) Zca ((l, m, (0 : Int))))
 (fun (p : Rat × Rat) => match p with
 | (Y, Z) =>
 (some ((Y, Z)))))
 (fun (p : Rat × Rat) => match p with
 | (aa, ab) =>
 (bnd (chk .i64 (c + ((1 : Int)))) fun ac =>
 some (.inl ((aa, ab, ac))))))
 (some (.inr ((l, m)))))) Zca (((0 : Rat), (0 : Rat), (0 : Int))))
 (fun (p : Rat × Rat) => match p with
 | (ad, ae) =>
 (some ((ad, ae)))))
 (fun (p : Rat × Rat) => match p with
 | (af, ag) =>
 (bnd (Z3b n) fun ah =>
 bnd (Zgd af ah) fun ai =>
 bnd (Z3b n) fun aj =>
 bnd (Z3b n) fun ak =>
 bnd (ZOb aj ak) fun al =>
 bnd (Zgd ag al) fun am =>
 some ((ai, am))))))))
noncomputable def Z9i (r : (List Int)) (t : (List (List Int))) : Option (Bool) :=
 some (((r.length : Int)) != ((t.length : Int)))
noncomputable def Zji (l : (List (List Int))) (g : (List (List Int))) : Option (Int) :=
 bnd (bnd (Z4 (fun s : Int => match s with
 | a =>
 (ifb (decide (a < (l.length : Int)))
 (bnd (idx l a) fun b =>
 bnd (Z9i b g) fun c =>
 ifb (c)
 (some (.inr ((.inl a))))
 (bnd (chk .i64 (a + ((1 : Int)))) fun d =>
 some (.inl d)))
 (some (.inr ((.inr (()))))))) Zca ((0 : Int)))
 (fun (p : (Int) ⊕ (Unit)) => match p with
 | .inl e =>
 (some ((.inr e)))
 | .inr (()) =>
 (some ((.inl (()))))))
 (fun (p : (Unit) ⊕ (Int)) => match p with
 | .inl (()) =>
 (some ((-1 : Int)))
 | .inr f =>
 (some f))
noncomputable def Zxi (l : (List (List Int))) (g : (List (List Int))) : Option (Bool) :=
 bnd (Zji l g) fun a =>
 some (decide ((0 : Int) ≤ a))
noncomputable def Zki (t : (List (List Int))) : Option (Int × Int) :=
 bnd (ifb (((t.length : Int)) == ((0 : Int)))
 (some ((t, true)))
 (ifb (decide ((8 : Int) < (t.length : Int)))
 (some ((t, true)))
 (bnd (Zxi t t) fun i =>
 some ((t, i)))))
 (fun (p : (List (List Int)) × Bool) => match p with
 | (d, j) =>
 (ifb (j)
 (some (((0 : Int), (4 : Int))))
 (bnd (bnd (Z4 (fun s : Int × Int => match s with
 | (e, a) =>
 (ifb (decide (a < (d.length : Int)))
 (bnd (idx d a) fun f =>
 bnd (bnd (Z4 (fun s : Int × Int => match s with
 | (g, b) =>
 (ifb (decide (b < (f.length : Int)))
 (bnd (idx f b) fun c =>
 bnd (ifb (decide (c < (0 : Int)))
 (some true)
 (some (decide ((1000000 : Int) < c))))
 (fun (k : Bool) =>
 (ifb (k)
 (some (.inr ((.inl (((0 : Int), (1 : Int)))))))
 (bnd (chk .i64 (g + c)) fun l =>
 bnd (chk .i64 (b + ((1 : Int)))) fun m =>
 some (.inl ((l, m)))))))
 (some (.inr ((.inr g)))))) Zca ((e, (0 : Int))))
 (fun (p : (Int × Int) ⊕ (Int)) => match p with
 | .inl ((n, o)) =>
 (some ((.inr ((n, o)))))
 | .inr q =>
 (some ((.inl q)))))
 (fun (p : (Int) ⊕ (Int × Int)) => match p with
 | .inl r =>
 (bnd (chk .i64 (a + ((1 : Int)))) fun u =>
 some (.inl ((r, u))))
 | .inr ((v, w)) =>
 (some (.inr ((.inl ((v, w))))))))
 (some (.inr ((.inr e)))))) Zca (((0 : Int), (0 : Int))))
 (fun (p : (Int × Int) ⊕ (Int)) => match p with
 | .inl ((x, y)) =>
 (some ((.inr ((x, y)))))
 | .inr z =>
 (some ((.inl z)))))
 (fun (p : (Int) ⊕ (Int × Int)) => match p with
 | .inl h =>
 (ifb (h == ((0 : Int)))
 (some (((0 : Int), (3 : Int))))
 (some ((h, (0 : Int)))))
 | .inr ((A, B)) =>
 (some ((A, B)))))))
noncomputable def ZMi (t : (List (List Int))) (g : Unit) : Option (Rat × Int) :=
 bnd (Zki t) fun a =>
 ifb (a.2 != ((0 : Int)))
 (some (((0 : Rat), a.2)))
 (bnd (Zcj t a.1 (())) fun b =>
 bnd (bnd (Zsc b.1 b.2) fun d =>
 bnd (Z3b ((1 : Int))) fun e =>
 bnd (Zsc e b.2) fun f =>
 bnd (ZTc d f) fun c =>
 some ((c.2, c.1)))
 (fun (p : Int × Rat) => match p with
 | (h, i) =>
 (ifb (h != ((0 : Int)))
 (some (((0 : Rat), (5 : Int))))
 (some ((i, (0 : Int)))))))
noncomputable def Zyi (t : (List (List Int))) : Option (Rat × Int) :=
 bnd (ZMi t (())) fun a =>
 some ((a.1, a.2))
noncomputable def Zhj (l : (List (Int × Int))) : Option ((List Rat) × (List Rat)) :=
 bnd (bnd (Z4 (fun s : (List Rat) × (List Rat) × Int => match s with
 | (b, c, d) =>
 (ifb (decide (d < (l.length : Int)))
 (bnd (idx l d) fun a =>
 bnd (Ztd ((a.1, a.2))) fun e =>
 bnd (ZRa 56 (b ++ [e])) fun m =>
 bnd (ZWd ((a.1, a.2))) fun f =>
 bnd (ZRa 56 (c ++ [f])) fun n =>
 bnd (chk .i64 (d + ((1 : Int)))) fun g =>
 some (.inl (((b ++ [e]), (c ++ [f]), g))))
 (some (.inr ((b, c)))))) Zca ((([] : (List Rat)), ([] : (List Rat)), (0 : Int))))
 (fun (p : (List Rat) × (List Rat)) => match p with
 | (h, i) =>
 (some ((h, i)))))
 (fun (p : (List Rat) × (List Rat)) => match p with
 | (j, k) =>
 (some ((j, k))))
noncomputable def ZNi (step : (Int × Int)) (limits : (List (Int × Int))) : Option ((Rat × (List Rat)) × (Rat × (List Rat))) :=
 bnd (Zhj limits) fun a =>
 bnd (Ztd ((step.1, step.2))) fun b =>
 bnd (ZWd ((step.1, step.2))) fun c =>
 some (((b, a.1), (c, a.2)))
noncomputable def Zue  : Option (Bool) :=
 bnd (Zbi ((((2 : Int), (0 : Int)), ((1 : Int), (2 : Int)), ((4000 : Int), (0 : Int))))) fun a =>
 bnd (bnd (Z1b ((48 : Int))) fun f =>
 bnd (Z1b ((8 : Int))) fun g =>
 bnd (Zri ((a.1.1, a.1.2.1, a.1.2.2)) f g) fun b =>
 some ((b.1, b.2)))
 (fun (p : Rat × Int) => match p with
 | (h, i) =>
 (bnd (Zyi ([[(20 : Int), (5 : Int)], [(10 : Int), (15 : Int)]])) fun c =>
 bnd (ZNi (((1 : Int), (10 : Int))) ([((1 : Int), (0 : Int)), ((2 : Int), (0 : Int))])) fun d =>
 bnd (Ztd (((206 : Int), (100 : Int)))) fun j =>
 bnd (ZHi ((d.1.1, d.1.2)) j) fun e =>
 bnd (ifb (i == ((0 : Int)))
 (ifb (c.2 == ((0 : Int)))
 (ifb (e.2 == ((0 : Int)))
 (bnd (Zqe h) fun k =>
 ifb (k == (([53, 48] : List UInt8)))
 (bnd (Zqe c.1) fun l =>
 ifb (l == (([50, 47, 53] : List UInt8)))
 (some (e.1 == ((2 : Int))))
 (some false))
 (some false))
 (some false))
 (some false))
 (some false))
 (fun (m : Bool) =>
 (some m))))
theorem num_pos {q : Rat} : 0 < q.num ↔ 0 < q := by
  have h1 := Rat.num_nonneg (q := q); have h2 := Rat.num_eq_zero (q := q); constructor
  · intro h; have h3 : 0 ≤ q := h1.1 (by omega); have h4 : q ≠ 0 := fun e => by have := h2.2 e; omega
    grind
  · intro h; have h3 : 0 ≤ q.num := h1.2 (by grind); have h4 : q.num ≠ 0 := fun e => by have := h2.1 e; grind
    omega
theorem Z6m {q : Rat} : (0 < q.num.sign) ↔ 0 < q := by
  rw [← num_pos]; rcases Int.lt_trichotomy q.num 0 with h | h | h
  · rw [Int.sign_eq_neg_one_of_neg h]; omega
  · rw [h]; simp
  · rw [Int.sign_eq_one_of_pos h]; omega
theorem Z2l {q : Rat} : (q.num.sign ≤ 0) ↔ q ≤ 0 := by
  have h := Z6m (q := q); constructor
  · intro h1; rcases Rat.le_total (a := q) (b := 0) with h2 | h2
    · exact h2
    · by_cases h3 : q = 0
      · grind
      · have := h.2 (by grind); omega
  · intro h1; rcases Int.lt_or_le 0 q.num.sign with h2 | h2
    · have := h.1 h2; grind
    · exact h2
def sz (k : Nat) (x : Rat) : Prop := bl x.num.natAbs ≤ k ∧ bl x.den ≤ k
theorem sz.mono {k m : Nat} {x : Rat} (h : sz k x) (hk : k ≤ m) : sz m x := ⟨by have := h.1; omega, by have := h.2; omega⟩
theorem sz.ok {k : Nat} {x : Rat} (h : sz k x) (hk : k ≤ 1099511627776) : okQ x := ⟨by have := h.1; omega, by have := h.2; omega⟩
theorem ZLh {k m : Nat} {x y : Rat} (h : sz k x) (h' : sz m y) : sz (k + m + 1) (x + y) := by
  have := ZNj x y; obtain ⟨a, b⟩ := h; obtain ⟨c, d⟩ := h'; exact ⟨by omega, by omega⟩
theorem Z4i {k m : Nat} {x y : Rat} (h : sz k x) (h' : sz m y) : sz (k + m + 1) (x - y) := by
  have := ZAj x y; obtain ⟨a, b⟩ := h; obtain ⟨c, d⟩ := h'; exact ⟨by omega, by omega⟩
theorem ZKe {k m : Nat} {x y : Rat} (h : sz k x) (h' : sz m y) : sz (k + m) (x * y) := by
  have := ZLm x y; obtain ⟨a, b⟩ := h; obtain ⟨c, d⟩ := h'; exact ⟨by omega, by omega⟩
theorem Zfe {k m : Nat} {x y : Rat} (h : sz k x) (h' : sz m y) : sz (k + m + 1) (x / y) := by
  have := Z9k (x := x) (y := y); obtain ⟨a, b⟩ := h; obtain ⟨c, d⟩ := h'; exact ⟨by omega, by omega⟩
theorem ZYd {n : Int} (h : -9223372036854775808 ≤ n ∧ n ≤ 9223372036854775807) : sz 64 (n : Rat) := by
  have h2 := Zyf n; have h3 : bl n.natAbs ≤ 64 := ZZb (show n.natAbs < 2 ^ 64 by omega); exact ⟨by omega, by omega⟩
def i64 (r : Int × Int) : Prop := (-9223372036854775808 ≤ r.1 ∧ r.1 ≤ 9223372036854775807) ∧ (-9223372036854775808 ≤ r.2 ∧ r.2 ≤ 9223372036854775807)
theorem Zfk {k m : Nat} {x y : Rat} (h : sz k x) (h' : sz m y) (hk : k + m ≤ 1000000000) : Z7b x y = some (x + y) := by unfold Z7b; rw [if_pos ⟨h.ok (by omega), h'.ok (by omega)⟩]
theorem qsub_ok {k m : Nat} {x y : Rat} (h : sz k x) (h' : sz m y) (hk : k + m ≤ 1000000000) : Zsc x y = some (x - y) := by unfold Zsc; rw [if_pos ⟨h.ok (by omega), h'.ok (by omega)⟩]
theorem Z4k {k m : Nat} {x y : Rat} (h : sz k x) (h' : sz m y) (hk : k + m ≤ 1000000000) : ZOb x y = some (x * y) := by unfold ZOb; rw [if_pos ⟨h.ok (by omega), h'.ok (by omega)⟩]
theorem Zrl {k m : Nat} {x y : Rat} (h : sz k x) (h' : sz m y) (hk : k + m ≤ 1000000000) (hy : y ≠ 0) : ZTc x y = some (x / y, 0) := by unfold ZTc; rw [if_pos ⟨h.ok (by omega), h'.ok (by omega)⟩, if_neg hy]
def decG : Nat → Nat → List UInt8
  | 0, _ => []
  | k + 1, n => if n = 0 then [] else decG k (n / 10) ++ [UInt8.ofNat (48 + n % 10)]
theorem Zei : ∀ (k n : Nat), n ≤ k → decG k n = ZHa n
  | 0, n, h => by
    have : n = 0 := by omega
    subst this; rw [ZXc]; rfl
  | k + 1, n, h => by
    by_cases h0 : n = 0
    · subst h0; rw [ZXc]; rfl
    · rw [Zae h0, decG, if_neg h0, Zei k (n / 10) (by omega)]
def txtG (x : Rat) : List UInt8 := (if x.num < 0 then [45] else []) ++ (if x.num.natAbs = 0 then [48] else decG x.num.natAbs x.num.natAbs) ++ (if x.den = 1 then [] else 47 :: (if x.den = 0 then [48] else decG x.den x.den))
theorem txtG_eq : txtG = txtQ := by
  funext x
  unfold txtG txtQ Zrc; rw [Zei _ _ (Nat.le_refl _), Zei _ _ (Nat.le_refl _)]
def Zsl (x : Rat) : Option (List UInt8) := if okQ x then some (txtG x) else none
theorem ZVo : Zqe = Zsl := by
  funext x
  unfold Zqe Zsl; rw [txtG_eq]
set_option maxRecDepth 100000 in
theorem Zbo : Zue = some true := by
  unfold Zue; rw [ZVo]; decide +kernel
theorem Z8b {α β : Type} {x : Option α} {y : α} {f : α → Option β} {z : Option β} (h : x = some y) (h2 : f y = z) : bnd x f = z := by subst h; rw [Ze]; exact h2
theorem ZBe {S R : Type} {body : S → Option (S ⊕ R)} {s : S} {r : R} (st : Nat → S) (n : Nat) (h0 : st 0 = s) (hn : n < 2 ^ 64) (h : ∀ k, k < n → body (st k) = some (.inl (st (k + 1)))) (he : body (st n) = some (.inr r)) : Z4 body Zca s = some r := by
  have key : ∀ m f k, k + m = n → m < f → Z4 body f (st k) = some r := by
    intro m
    induction m with
    | zero =>
      intro f k hk hf; obtain ⟨f, rfl⟩ : ∃ g, f = g + 1 := ⟨f - 1, by omega⟩; obtain rfl : k = n := by omega
      unfold Z4; rw [he, Ze]
    | succ m ih =>
      intro f k hk hf; obtain ⟨f, rfl⟩ : ∃ g, f = g + 1 := ⟨f - 1, by omega⟩; unfold Z4; rw [h k (by omega), Ze]; exact ih f (k + 1) (by omega) (by omega)
  rw [← h0]; exact key n Zca 0 (by omega) (ZLa (by omega))
def bad (x : Int) : Bool := decide (x < 0) || decide (1000000 < x)
theorem not_bad {x : Int} (h : bad x = false) : 0 ≤ x ∧ x ≤ 1000000 := by
  unfold bad at h; simp at h; omega
theorem ZBn {l : List Int} (h : l.any bad = false) : ∀ j, (hj : j < l.length) → bad l[j] = false := fun j hj => by
  rw [List.any_eq_false] at h
  simpa using h l[j] (List.getElem_mem hj)
def okT (t : List (List Int)) : Bool := !(t.length == 0 || decide (8 < t.length) || t.any fun r => (r.length : Int) != (t.length : Int))
theorem ZKl {α : Type} {p : α → Bool} {l : List α} (h : l.any p = true) : ∃ m, ∃ hm : m < l.length, p l[m] = true ∧ ∀ j, (h : j < l.length) → j < m → p l[j] = false := by
  have hm : l.findIdx p < l.length := List.findIdx_lt_length.2 (List.any_eq_true.1 h); exact ⟨l.findIdx p, hm, List.findIdx_getElem, fun j hj hjm => by
    have := List.not_of_lt_findIdx hjm
    simpa using this⟩
theorem Zgi {α : Type} {p : α → Bool} {l : List α} (h : l.any p = false) : ∀ j, (hj : j < l.length) → p l[j] = false := fun j hj => by
  rw [List.any_eq_false] at h
  simpa using h l[j] (List.getElem_mem hj)
theorem ZPn {t : List (List Int)} (h : okT t = true) : 0 < t.length ∧ t.length ≤ 8 ∧ ∀ r ∈ t, r.length = t.length := by
  unfold okT at h; simp at h; obtain ⟨⟨h1, h2⟩, h3⟩ := h; refine ⟨?_, by omega, fun r hr => by have := h3 r hr; omega⟩
  cases t with
  | nil => simp at h1
  | cons a l => simp
theorem ZVn (l : List Rat) (hl : l.length ≤ 4611686018427387904) : Zjg l () = some (l.any fun x => decide (x.num.sign ≤ 0)) := by
  unfold Zjg ZNg Z5g Zod; rw [ZPa, ZPa]; refine Z3a (fun s : Int => ∃ k : Nat, s = (k : Int) ∧ k ≤ l.length ∧ (l.take k).any (fun x => decide (x.num.sign ≤ 0)) = false) (fun s => l.length - s.toNat)
      (fun r : Int ⊕ Unit => (∃ k : Nat, r = .inl (k : Int) ∧ l.any (fun x => decide (x.num.sign ≤ 0)) = true) ∨ r = .inr () ∧ l.any (fun x => decide (x.num.sign ≤ 0)) = false) ⟨0, rfl, by omega, rfl⟩ (ZLa (by simp; omega)) ?_ ?_
  · rintro s ⟨k, rfl, hk, ha⟩; simp only; by_cases h : k < l.length
    · rw [decide_eq_true (by omega), ZK, Z3 h, Ze, Ze, Ze]; by_cases h2 : l[k].num.sign ≤ 0
      · right; rw [decide_eq_true h2, ZK]; exact ⟨_, rfl, .inl ⟨k, rfl, List.any_eq_true.2 ⟨l[k], List.getElem_mem h, decide_eq_true h2⟩⟩⟩
      · left; rw [decide_eq_false h2, ZI, Z8 (by omega) (by omega), Ze]; refine ⟨_, rfl, ⟨k + 1, by simp, by omega, ?_⟩, by simp; omega⟩; rw [List.take_succ_eq_append_getElem h, List.any_append, ha]; simp only [List.any_cons, List.any_nil, Bool.or_false, Bool.false_or]; exact decide_eq_false h2
    · right; rw [decide_eq_false (by omega), ZI]; rw [List.take_of_length_le (by omega)] at ha; exact ⟨_, rfl, .inr ⟨rfl, ha⟩⟩
  · rintro r (⟨k, rfl, h⟩ | ⟨rfl, h⟩)
    · rw [h]; simp only [Ze]; exact congrArg some (decide_eq_true (by omega))
    · rw [h]; rfl
theorem ZEl (l : List Rat) (hl : l.length ≤ 4611686018427387904) : ZSd l = some (l.all fun x => decide (0 < x)) := by
  unfold ZSd; rw [ZVn l hl, Ze, List.not_any_eq_all_not]; congr 2
  funext x
  rw [Bool.eq_iff_iff]; simp only [Bool.not_eq_true', decide_eq_false_iff_not, decide_eq_true_iff, Z2l]; grind
theorem Zii {k m : Nat} {x y : Rat} (h : sz k x) (h' : sz m y) (hk : k + m ≤ 1000000000) (hy : y ≠ 0) : Zgd x y = some (x / y) := by
  unfold Zgd; rw [Zrl h h' hk hy, Ze]
theorem ZKi (n : Int) : Z3b n = some (n : Rat) := by unfold Z3b Z1b; rw [Ze]
def ent (t : List (List Int)) (i k : Nat) : Int := (t.getD i []).getD k 0
def upd (l : List Int) (i : Nat) (x : Int) : List Int := l.set i (l.getD i 0 + x)
theorem Zvb {α : Type} {l : List α} {i : Nat} {d : α} (h : i < l.length) : l.getD i d = l[i] := by rw [List.getD_eq_getElem?_getD, List.getElem?_eq_getElem h]; rfl
theorem ent_get {t : List (List Int)} {i k : Nat} (h : i < t.length) (h' : k < t[i].length) : ent t i k = t[i][k] := by unfold ent; rw [Zvb h, Zvb h']
def rcF (t : List (List Int)) (i k : Nat) (p : List Int × List Int) : List Int × List Int := (upd p.1 i (ent t i k), upd p.2 k (ent t i k))
def RC (n : Nat) (B : Int) (p : List Int × List Int) : Prop := p.1.length = n ∧ p.2.length = n ∧ (∀ x ∈ p.1, 0 ≤ x ∧ x ≤ B) ∧ (∀ x ∈ p.2, 0 ≤ x ∧ x ≤ B)
theorem RC.at1 {n : Nat} {B : Int} {p : List Int × List Int} (h : RC n B p) {i : Nat} (hi : i < n) : ∃ hh : i < p.1.length, 0 ≤ p.1[i] ∧ p.1[i] ≤ B ∧ p.1.getD i 0 = p.1[i] := by
  have h1 : i < p.1.length := by rw [h.1]; exact hi
  exact ⟨h1, (h.2.2.1 _ (List.getElem_mem h1)).1, (h.2.2.1 _ (List.getElem_mem h1)).2, Zvb h1⟩
theorem RC.at2 {n : Nat} {B : Int} {p : List Int × List Int} (h : RC n B p) {i : Nat} (hi : i < n) : ∃ hh : i < p.2.length, 0 ≤ p.2[i] ∧ p.2[i] ≤ B ∧ p.2.getD i 0 = p.2[i] := by
  have h1 : i < p.2.length := by rw [h.2.1]; exact hi
  exact ⟨h1, (h.2.2.2 _ (List.getElem_mem h1)).1, (h.2.2.2 _ (List.getElem_mem h1)).2, Zvb h1⟩
theorem Zmk {l : List Int} {i : Nat} {x B : Int} (hx : 0 ≤ x ∧ x ≤ 1000000) (hi : i < l.length) (h : ∀ y ∈ l, 0 ≤ y ∧ y ≤ B) : ∀ y ∈ upd l i x, 0 ≤ y ∧ y ≤ B + 1000000 := by
  intro y hy; unfold upd at hy; have h2 := h _ (List.getElem_mem hi); rcases List.mem_or_eq_of_mem_set hy with h1 | h1
  · have := h y h1; omega
  · rw [Zvb hi] at h1; omega
structure Good (t : List (List Int)) : Prop where
  n0 : 0 < t.length
  n8 : t.length ≤ 8
  sq : ∀ i, (h : i < t.length) → t[i].length = t.length
  ok : ∀ i k, i < t.length → k < t.length → 0 ≤ ent t i k ∧ ent t i k ≤ 1000000
theorem Good.of {t : List (List Int)} (h1 : okT t = true) (h2 : t.any (·.any bad) = false) : Good t := by
  obtain ⟨a, b, c⟩ := ZPn h1; refine ⟨a, b, fun i h => c _ (List.getElem_mem h), fun i k hi hk => ?_⟩; have hk' : k < t[i].length := by rw [c _ (List.getElem_mem hi)]; exact hk
  rw [ent_get hi hk']; exact not_bad (ZBn (Zgi h2 i hi) k hk')
theorem RC.step {t : List (List Int)} (g : Good t) {B : Int} {p : List Int × List Int} {i k : Nat} (hi : i < t.length) (hk : k < t.length) (h : RC t.length B p) : RC t.length (B + 1000000) (rcF t i k p) :=
  ⟨by simp [rcF, upd, h.1], by simp [rcF, upd, h.2.1], Zmk (g.ok i k hi hk) (by rw [h.1]; exact hi) h.2.2.1, Zmk (g.ok i k hi hk) (by rw [h.2.1]; exact hk) h.2.2.2⟩
theorem RC.mono {n : Nat} {B C : Int} {p : List Int × List Int} (h : RC n B p) (hB : B ≤ C) : RC n C p :=
  ⟨h.1, h.2.1, fun x hx => by have := h.2.2.1 x hx; omega, fun x hx => by have := h.2.2.2 x hx; omega⟩
def pqF (t : List (List Int)) (w : Nat → Nat → Rat) (p : List Int × List Int) (i k : Nat) (s : Rat × Rat) : Rat × Rat :=
  (s.1 + w i k * ((ent t i k : Int) : Rat), s.2 + w i k * ((p.1.getD i 0 : Int) : Rat) * ((p.2.getD k 0 : Int) : Rat))
def SZ (k : Nat) (s : Rat × Rat) : Prop := sz k s.1 ∧ sz k s.2
theorem SZ.mono {k m : Nat} {s : Rat × Rat} (h : SZ k s) (hk : k ≤ m) : SZ m s := ⟨h.1.mono hk, h.2.mono hk⟩
theorem ZAm : sz 1 (0 : Rat) := by constructor <;> decide
section
variable {t : List (List Int)} {w : Nat → Nat → Rat} {p : List Int × List Int}
theorem SZ.step (g : Good t) (hw : ∀ i k, i < t.length → k < t.length → sz 200 (w i k)) (hp : RC t.length 64000000 p) {i k c : Nat} {s : Rat × Rat} (hi : i < t.length) (hk : k < t.length) (h : SZ c s) : SZ (c + 400) (pqF t w p i k s) := by
  have e := g.ok i k hi hk; obtain ⟨_, a1, a2, a3⟩ := hp.at1 hi; obtain ⟨_, b1, b2, b3⟩ := hp.at2 hk; refine ⟨(ZLh h.1 (ZKe (hw i k hi hk) (ZYd (n := ent t i k) (by omega)))).mono (by omega), (ZLh h.2 (ZKe (ZKe (hw i k hi hk) (ZYd (n := p.1.getD i 0) (by omega))) (ZYd (n := p.2.getD k 0) (by omega)))).mono (by omega)⟩
end
set_option maxRecDepth 100000
set_option maxRecDepth 100000
theorem sz_one : sz 1 (1 : Rat) := by constructor <;> decide
noncomputable def ZBg (r : (Bool × Rat)) : Option (Bool) :=
 some r.1
noncomputable def Z8e (l : (List (Bool × Rat))) (g : Unit) : Option (Int) :=
 bnd (bnd (Z4 (fun s : Int => match s with
 | a =>
 (ifb (decide (a < (l.length : Int)))
 (bnd (idx l a) fun b =>
 bnd (ZBg ((b.1, b.2))) fun c =>
 ifb (c)
 (some (.inr ((.inl a))))
 (bnd (chk .i64 (a + ((1 : Int)))) fun d =>
 some (.inl d)))
 (some (.inr ((.inr (()))))))) Zca ((0 : Int)))
 (fun (p : (Int) ⊕ (Unit)) => match p with
 | .inl e =>
 (some ((.inr e)))
 | .inr (()) =>
 (some ((.inl (()))))))
 (fun (p : (Unit) ⊕ (Int)) => match p with
 | .inl (()) =>
 (some ((-1 : Int)))
 | .inr f =>
 (some f))
noncomputable def Ztf (l : (List (Bool × Rat))) : Option (Int) :=
 bnd (ifb (((l.length : Int)) == ((0 : Int)))
 (some true)
 (some (decide ((64 : Int) < (l.length : Int)))))
 (fun (b : Bool) =>
 (ifb (b)
 (some ((4 : Int)))
 (bnd (bnd (Z4 (fun s : Int => match s with
 | a =>
 (ifb (decide (a < (l.length : Int)))
 (bnd (idx l a) fun c =>
 bnd (ZSd ([c.2])) fun d =>
 ifb (!(d))
 (some (.inr ((.inl ((1 : Int))))))
 (bnd (chk .i64 (a + ((1 : Int)))) fun e =>
 some (.inl e)))
 (some (.inr ((.inr (()))))))) Zca ((0 : Int)))
 (fun (p : (Int) ⊕ (Unit)) => match p with
 | .inl f =>
 (some ((.inr f)))
 | .inr (()) =>
 (some ((.inl (()))))))
 (fun (p : (Unit) ⊕ (Int)) => match p with
 | .inl (()) =>
 (bnd (bnd (idx l ((0 : Int))) fun g =>
 ifb (!(g.1))
 (some true)
 (bnd (chk .i64 (((l.length : Int)) - ((1 : Int)))) fun h =>
 bnd (idx l h) fun i =>
 some (!(i.1))))
 (fun (j : Bool) =>
 (ifb (j)
 (some ((7 : Int)))
 (some ((0 : Int))))))
 | .inr k =>
 (some k)))))
noncomputable def Z3e (l : (List (Bool × Rat))) : Option ((List Rat) × Int) :=
 bnd (Ztf l) fun d =>
 ifb (d != ((0 : Int)))
 (some ((([] : (List Rat)), d)))
 (bnd (bnd (Z4 (fun s : (List Rat) × Int × Int => match s with
 | (b, a, c) =>
 (ifb (decide (a < (l.length : Int)))
 (bnd (bnd (idx l a) fun h =>
 ifb (h.1)
 (some ((b, a)))
 (bnd (Zpb l a ((l.length : Int))) fun i =>
 bnd (Z8e i (())) fun j =>
 bnd (chk .i64 (a + j)) fun e =>
 bnd (bnd (idx l c) fun k =>
 bnd (idx l e) fun m =>
 some ((k.2, m.2)))
 (fun (p : Rat × Rat) => match p with
 | (f, n) =>
 (bnd (Zsc n f) fun o =>
 bnd (chk .i64 (a - c)) fun q =>
 bnd (Z3b q) fun r =>
 bnd (chk .i64 (e - c)) fun t =>
 bnd (Z3b t) fun u =>
 bnd (Zgd r u) fun v =>
 bnd (ZOb o v) fun w =>
 bnd (Z7b f w) fun g =>
 bnd (ZRa 56 (b ++ [g])) fun C =>
 some (((b ++ [g]), c))))))
 (fun (p : (List Rat) × Int) => match p with
 | (x, y) =>
 (bnd (chk .i64 (a + ((1 : Int)))) fun z =>
 some (.inl ((x, z, y))))))
 (some (.inr b)))) Zca ((([] : (List Rat)), (0 : Int), (0 : Int))))
 (fun (A : (List Rat)) =>
 (some A)))
 (fun (B : (List Rat)) =>
 (some ((B, (0 : Int))))))
noncomputable def ZEe (l : (List (Bool × Rat))) : Option (Rat × Int) :=
 bnd (Z3e l) fun a =>
 ifb (a.2 != ((0 : Int)))
 (some (((0 : Rat), a.2)))
 (ifb (((a.1.length : Int)) == ((0 : Int)))
 (some (((0 : Rat), (5 : Int))))
 (bnd (bnd (Z4 (fun s : Rat × Int × Int => match s with
 | (c, b, d) =>
 (ifb (decide (d < (l.length : Int)))
 (bnd (idx l d) fun e =>
 bnd (ifb (!(e.1))
 (bnd (idx a.1 b) fun f =>
 bnd (Zgd f e.2) fun g =>
 bnd (Z7b c g) fun h =>
 bnd (chk .i64 (b + ((1 : Int)))) fun i =>
 some ((h, i)))
 (some ((c, b))))
 (fun (p : Rat × Int) => match p with
 | (j, k) =>
 (bnd (chk .i64 (d + ((1 : Int)))) fun m =>
 some (.inl ((j, k, m))))))
 (some (.inr ((c, b)))))) Zca (((0 : Rat), (0 : Int), (0 : Int))))
 (fun (p : Rat × Int) => match p with
 | (n, o) =>
 (some ((n, o)))))
 (fun (p : Rat × Int) => match p with
 | (q, r) =>
 (bnd (Z3b r) fun t =>
 bnd (Zgd q t) fun u =>
 some ((u, (0 : Int)))))))
set_option maxRecDepth 100000
theorem Zfh {α : Type} {b : Nat} {l : List α} (h : l.length * b ≤ 140737488355328) : ZRa b l = some () := by unfold ZRa; rw [if_pos h]
def ZKd (R : List (Bool × Rat)) : Int :=
  if R.length = 0 ∨ 64 < R.length then 4 else if R.any (fun x => decide (x.2 ≤ 0)) then 1 else if (R.getD 0 (false, 0)).1 && (R.getD (R.length - 1) (false, 0)).1 then 0 else 7
theorem Zwo (R : List (Bool × Rat)) (h : 0 < R.length) (h2 : R.length ≤ 64) : (bnd (bnd (idx R ((0 : Int))) fun y52 => ifb (!(y52.1)) (some true) (bnd (chk .i64 (((R.length : Int)) - ((1 : Int)))) fun y67 => bnd (idx R y67) fun y69 => some (!(y69.1))))
  (fun (x39 : Bool) => (ifb (x39) (some ((7 : Int))) (some ((0 : Int)))))) = some (if (R.getD 0 (false, 0)).1 && (R.getD (R.length - 1) (false, 0)).1 then 0 else 7) := by
  have e0 : idx R (0 : Int) = some R[0] := Z3 (l := R) (i := 0) h; have e1 : (R.length : Int) - 1 = ((R.length - 1 : Nat) : Int) := by omega
  rw [e0, Ze, Z8 (by omega) (by omega), Ze, e1, Z3 (by omega), Ze, Zvb h, Zvb (i := R.length - 1) (by omega)]
  cases R[0].1 <;> cases R[R.length - 1].1 <;> rfl
theorem Zym (R : List (Bool × Rat)) : Ztf R = some (ZKd R) := by
  unfold Ztf ZKd; by_cases h0 : R.length = 0
  · rw [if_pos (.inl h0), h0]; rfl
  have e0 : ((R.length : Int) == 0) = false := by
    rw [Bool.eq_false_iff]; intro h; rw [beq_iff_eq] at h; omega
  rw [e0, ZI, Ze]; by_cases h64 : 64 < R.length
  · rw [if_pos (.inr h64), decide_eq_true (by omega), ZK]
  rw [if_neg (by omega), decide_eq_false (by omega), ZI]; have ab : ∀ x : Rat, ZSd [x] = some (decide (0 < x)) := fun x => by rw [ZEl _ (by simp)]; simp
  by_cases hb : (R.any fun x => decide (x.2 ≤ 0)) = true
  · obtain ⟨m, hm, h1, h2⟩ := ZKl hb; rw [if_pos hb]; refine Z8b (y := .inr (1 : Int)) (Z8b (ZBe (r := .inl (1 : Int)) (fun k => (k : Int)) m rfl (by omega) (fun k hk => ?_) ?_) rfl) rfl
    · have := h2 k (by omega) hk; have hp : 0 < R[k].2 := by have := of_decide_eq_false this; grind
      simp only; rw [decide_eq_true (by omega), ZK, Z3 (by omega), Ze, ab, Ze, decide_eq_true hp, Bool.not_true, ZI, Z8 (by omega) (by omega), Ze]; rfl
    · have hp : ¬ 0 < R[m].2 := by have := of_decide_eq_true h1; grind
      simp only; rw [decide_eq_true (by omega), ZK, Z3 (by omega), Ze, ab, Ze, decide_eq_false hp, Bool.not_false, ZK]
  · have hb' : (R.any fun x => decide (x.2 ≤ 0)) = false := by simpa using hb
    rw [if_neg hb]; refine Z8b (y := .inl ()) (Z8b (ZBe (r := .inr ()) (fun k => (k : Int)) R.length rfl (by omega) (fun k hk => ?_) ?_) rfl) ?_
    · have := Zgi hb' k hk; have hp : 0 < R[k].2 := by have := of_decide_eq_false this; grind
      simp only; rw [decide_eq_true (by omega), ZK, Z3 (by omega), Ze, ab, Ze, decide_eq_true hp, Bool.not_true, ZI, Z8 (by omega) (by omega), Ze]; rfl
    · simp only; rw [decide_eq_false (by omega), ZI]
    · exact Zwo R (by omega) (by omega)
structure Ran (R : List (Bool × Rat)) : Prop where
  n0 : 0 < R.length
  n64 : R.length ≤ 64
  pos : ∀ i, (h : i < R.length) → 0 < R[i].2
  first : R[0].1 = true
  last : R[R.length - 1].1 = true
theorem Ran.of {R : List (Bool × Rat)} (h : ZKd R = 0) : Ran R := by
  unfold ZKd at h; split at h
  · simp at h
  rename_i h0; split at h
  · simp at h
  rename_i h1; split at h
  · rename_i h2; have n0 : 0 < R.length := by omega
    rw [Zvb n0, Zvb (i := R.length - 1) (by omega), Bool.and_eq_true] at h2; have h1' : (R.any fun x => decide (x.2 ≤ 0)) = false := by simpa using h1
    exact ⟨n0, by omega, fun i hi => by have := Zgi h1' i hi; simp at this; grind, h2.1, h2.2⟩
  · simp at h
def pr (R : List (Bool × Rat)) : Nat → Nat
  | 0 => 0
  | i + 1 => if (R.getD i (false, 0)).1 then i else pr R i
theorem pr_lt {R : List (Bool × Rat)} : ∀ i, 0 < i → pr R i < i
  | 0, h => by omega
  | i + 1, _ => by
    unfold pr
    split
    · omega
    · rcases Nat.eq_zero_or_pos i with h | h
      · subst h; exact Nat.succ_pos _
      · have := pr_lt (R := R) i h; omega
theorem ZXk {R : List (Bool × Rat)} (h : Ran R) : ∀ i, 0 < i → i ≤ R.length → (R.getD (pr R i) (false, 0)).1 = true ∧ ∀ j, pr R i < j → j < i → (R.getD j (false, 0)).1 = false
  | 0, h, _ => by omega
  | i + 1, _, hi => by
    unfold pr
    split
    · rename_i hh
      exact ⟨hh, fun j h1 h2 => by omega⟩
    · rename_i hh
      rcases Nat.eq_zero_or_pos i with h0 | h0
      · subst h0
        rw [Zvb h.n0] at hh
        exact absurd h.first hh
      · have ih := ZXk h i h0 (by omega)
        refine ⟨ih.1, fun j h1 h2 => ?_⟩
        rcases Nat.lt_or_ge j i with h3 | h3
        · exact ih.2 j h1 h3
        · obtain rfl : j = i := by omega
          simpa using hh
def nx (R : List (Bool × Rat)) (i : Nat) : Nat := (R.drop i).findIdx (·.1)
theorem Zok {R : List (Bool × Rat)} (h : Ran R) {i : Nat} (hi : i < R.length) : i + nx R i < R.length ∧ (R.getD (i + nx R i) (false, 0)).1 = true ∧ ∀ j, j < nx R i → (R.getD (i + j) (false, 0)).1 = false := by
  have hm : (R.drop i).findIdx (·.1) < (R.drop i).length := List.findIdx_lt_length.2 ⟨R[R.length - 1], by
    rw [List.mem_drop_iff_getElem]; exact ⟨R.length - 1 - i, by have := h.n0; omega, by congr 1; have := h.n0; omega⟩, h.last⟩
  have hl : (R.drop i).length = R.length - i := List.length_drop ..; have h1 : i + nx R i < R.length := by unfold nx; omega
  refine ⟨h1, ?_, fun j hj => ?_⟩
  · rw [Zvb h1]; have := List.findIdx_getElem (xs := R.drop i) (p := (·.1)) (w := hm); rw [List.getElem_drop] at this; exact this
  · have h2 := List.not_of_lt_findIdx (xs := R.drop i) (p := (·.1)) hj; have h3 : i + j < R.length := by unfold nx at hj; omega
    rw [Zvb h3]; rw [List.getElem_drop] at h2
    simpa using h2
set_option maxRecDepth 100000
abbrev rG (R : List (Bool × Rat)) (i : Nat) : Bool × Rat := R.getD i (false, 0)
def Zkc (R : List (Bool × Rat)) (i : Nat) : Rat :=
  (rG R (pr R i)).2 + ((rG R (i + nx R i)).2 - (rG R (pr R i)).2) * ((((i : Int) - (pr R i : Int) : Int) : Rat) / ((((i + nx R i : Nat) : Int) - (pr R i : Int) : Int) : Rat))
def dr (R : List (Bool × Rat)) : Nat → List Rat
  | 0 => []
  | i + 1 => if (rG R i).1 then dr R i else dr R i ++ [Zkc R i]
theorem ZXg (R : List (Bool × Rat)) : ∀ k, (dr R k).length ≤ k
  | 0 => by simp [dr]
  | k + 1 => by
    have := ZXg R k
    unfold dr
    split
    · omega
    · simp; omega
theorem Zzk (R : List (Bool × Rat)) (k : Nat) : ∀ n, ∃ l, dr R (k + n) = dr R k ++ l
  | 0 => ⟨[], by simp⟩
  | n + 1 => by
    obtain ⟨l, hl⟩ := Zzk R k n
    rw [← Nat.add_assoc]
    show ∃ l, (if (rG R (k + n)).1 then dr R (k + n) else dr R (k + n) ++ [Zkc R (k + n)]) = _
    split
    · exact ⟨l, hl⟩
    · exact ⟨l ++ [Zkc R (k + n)], by rw [hl, List.append_assoc]⟩
theorem dr_at {R : List (Bool × Rat)} {k n : Nat} (h : k < n) (hr : (rG R k).1 = false) : (dr R n)[(dr R k).length]? = some (Zkc R k) := by
  obtain ⟨l, hl⟩ := Zzk R (k + 1) (n - (k + 1)); rw [show k + 1 + (n - (k + 1)) = n by omega] at hl; have : dr R (k + 1) = dr R k ++ [Zkc R k] := by
    show (if (rG R k).1 then dr R k else dr R k ++ [Zkc R k]) = _; rw [hr]; rfl
  rw [hl, this]; simp
theorem idx_q {α : Type} (l : List α) (j : Nat) : idx l (j : Int) = l[j]? := by simp [idx]
def okR (R : List (Bool × Rat)) : Prop := ∀ i, (h : i < R.length) → sz 64 R[i].2
theorem okR.at {R : List (Bool × Rat)} (h : okR R) {i : Nat} (hi : i < R.length) : sz 64 (rG R i).2 := by unfold rG; rw [Zvb hi]; exact h i hi
section
variable {R : List (Bool × Rat)}
theorem gaps (h : Ran R) {i : Nat} (hi : i < R.length) (hr : (rG R i).1 = false) : 0 < i ∧ pr R i < i ∧ 0 < nx R i ∧ i + nx R i < R.length := by
  have h0 : 0 < i := by
    rcases Nat.eq_zero_or_pos i with h0 | h0
    · subst h0; unfold rG at hr; rw [Zvb h.n0, h.first] at hr
      cases hr
    · exact h0
  have h2 := Zok h hi; refine ⟨h0, pr_lt i h0, ?_, h2.1⟩; rcases Nat.eq_zero_or_pos (nx R i) with h3 | h3
  · have := h2.2.1; rw [h3, Nat.add_zero, hr] at this
    cases this
  · exact h3
theorem Zrk (h : Ran R) (hR : okR R) {i : Nat} (hi : i < R.length) (hr : (rG R i).1 = false) : sz 400 (Zkc R i) := by
  obtain ⟨g0, g1, g2, g3⟩ := gaps h hi hr; have n64 := h.n64; have a := hR.at (i := pr R i) (by omega); have b := hR.at (i := i + nx R i) (by omega); have z1 := ZYd (n := (i : Int) - (pr R i : Int)) (by omega); have z2 := ZYd (n := ((i + nx R i : Nat) : Int) - (pr R i : Int)) (by omega); exact (ZLh a (ZKe (Z4i b a) (Zfe z1 z2))).mono (by omega)
theorem ZXl (l : List (Bool × Rat)) (hl : l.length ≤ 1000) (h : l.findIdx (·.1) < l.length) : Z8e l () = some (l.findIdx (·.1) : Int) := by
  unfold Z8e ZBg; refine Z8b (y := .inr (l.findIdx (·.1) : Int)) (Z8b (ZBe (r := .inl (l.findIdx (·.1) : Int)) (fun k => (k : Int)) (l.findIdx (·.1)) rfl (by omega) (fun k hk => ?_) ?_) rfl) rfl
  · have := List.not_of_lt_findIdx hk; have hf : l[k].1 = false := by simpa using this
    simp only; rw [decide_eq_true (by omega), ZK, Z3 (by omega), Ze, Ze, hf, ZI, Z8 (by omega) (by omega), Ze]; rfl
  · have hf : l[l.findIdx (·.1)].1 = true := List.findIdx_getElem (xs := l) (p := (·.1)) (w := h); simp only; rw [decide_eq_true (by omega), ZK, Z3 h, Ze, Ze, hf, ZK]
theorem Z6k (hR : okR R) (h0 : ZKd R = 0) : Z3e R = some (dr R R.length, 0) := by
  have h := Ran.of h0; have n64 := h.n64; unfold Z3e; rw [Zym, Ze, h0]; have c0 : ((0 : Int) != 0) = false := rfl; rw [c0, ZI]; refine Z8b (Z8b (ZBe (r := dr R R.length) (fun k => (dr R k, (k : Int), (pr R k : Int))) R.length rfl (by omega) (fun i hi => ?_) ?_) rfl) rfl
  · simp only; rw [decide_eq_true (by omega), ZK, Z3 hi, Ze]; have e2 := Zvb (d := (false, (0 : Rat))) hi; by_cases hr : (rG R i).1 = true
    · have hr' : R[i].1 = true := by rw [← e2]; exact hr
      rw [hr', ZK, Ze]; simp only; rw [Z8 (by omega) (by omega), Ze]; have e3 : dr R (i + 1) = dr R i := by show (if (rG R i).1 then _ else _) = _; rw [if_pos hr]
      have e4 : pr R (i + 1) = i := by show (if (R.getD i (false, 0)).1 then _ else _) = _; rw [if_pos hr]
      rw [e3, e4]; rfl
    · have hrf : (rG R i).1 = false := by simpa using hr
      have hr' : R[i].1 = false := by rw [← e2]; exact hrf
      obtain ⟨g0, g1, g2, g3⟩ := gaps h hi hrf; have e3 : dr R (i + 1) = dr R i ++ [Zkc R i] := by show (if (rG R i).1 then _ else _) = _; rw [if_neg hr]
      have e4 : pr R (i + 1) = pr R i := by show (if (R.getD i (false, 0)).1 then _ else _) = _; rw [if_neg hr]
      have ec : Zpb R (i : Int) (R.length : Int) = some (R.drop i) := by
        unfold Zpb; rw [if_pos ⟨by omega, by omega, by omega⟩, Int.toNat_natCast, Int.toNat_natCast, List.take_length]
      have hl : (R.drop i).length = R.length - i := List.length_drop ..; have ei : Z8e (R.drop i) () = some (nx R i : Int) := ZXl _ (by omega) (by have : (R.drop i).findIdx (·.1) = nx R i := rfl; omega); have a := hR.at (i := pr R i) (by omega); have b := hR.at (i := i + nx R i) (by omega); have z1 := ZYd (n := (i : Int) - (pr R i : Int)) (by omega); have z2 := ZYd (n := ((i + nx R i : Nat) : Int) - (pr R i : Int)) (by omega); have hne : ((((i + nx R i : Nat) : Int) - (pr R i : Int) : Int) : Rat) ≠ 0 := by
        intro hz; have := Rat.intCast_eq_zero_iff.1 hz; omega
      have ga := Zvb (l := R) (d := (false, (0 : Rat))) (i := pr R i) (by omega); have gb := Zvb (l := R) (d := (false, (0 : Rat))) (i := i + nx R i) (by omega); have hd := ZXg R i; rw [hr', ZI, ec, Ze, ei, Ze, Z8 (by omega) (by omega), Ze]; rw [show (i : Int) + (nx R i : Int) = ((i + nx R i : Nat) : Int) by omega, Z3 (by omega), Ze, Z3 (by omega), Ze, Ze, ← ga, ← gb]; simp only; rw [qsub_ok b a (by omega), Ze, Z8 (by omega) (by omega), Ze, ZKi, Ze, Z8 (by omega) (by omega), Ze, ZKi, Ze, Zii z1 z2 (by omega) hne, Ze, Z4k (Z4i b a) (Zfe z1 z2) (by omega), Ze, Zfk a (ZKe (Z4i b a) (Zfe z1 z2)) (by omega), Ze]; have hroom : ∀ x : Rat, ZRa 56 (dr R i ++ [x]) = some () := fun x => Zfh (by simp; omega); rw [hroom, Ze, Ze]; simp only; rw [Z8 (by omega) (by omega), Ze, e3, e4]; rfl
  · simp only; rw [decide_eq_false (by omega), ZI]
end
set_option maxRecDepth 100000
def ixs (R : List (Bool × Rat)) : Nat → Rat
  | 0 => 0
  | i + 1 => if (rG R i).1 then ixs R i else ixs R i + Zkc R i / (rG R i).2
def ZKh (R : List (Bool × Rat)) : Rat × Int := if (dr R R.length).length = 0 then (0, 5) else (ixs R R.length / (((dr R R.length).length : Int) : Rat), 0)
section
variable {R : List (Bool × Rat)}
theorem Zni (h : Ran R) (hR : okR R) : ∀ k, k ≤ R.length → sz (500 * k + 1) (ixs R k)
  | 0, _ => ZAm
  | k + 1, hk => by
    have ih := Zni h hR k (by omega)
    show sz _ (if (rG R k).1 then ixs R k else ixs R k + Zkc R k / (rG R k).2)
    by_cases hr : (rG R k).1 = true
    · rw [if_pos hr]; exact ih.mono (by omega)
    · rw [if_neg hr]
      exact (ZLh ih (Zfe (Zrk h hR (by omega) (by simpa using hr)) (hR.at (by omega)))).mono (by omega)
theorem dist_ne (h : Ran R) {i : Nat} (hi : i < R.length) : (rG R i).2 ≠ 0 := by
  have := h.pos i hi; unfold rG; rw [Zvb hi]; grind
theorem Zmj {i : Nat} (hr : (rG R i).1 = true) : dr R (i + 1) = dr R i := by show (if (rG R i).1 then _ else _) = _; rw [if_pos hr]
theorem ZBi {i : Nat} (hr : (rG R i).1 = false) : dr R (i + 1) = dr R i ++ [Zkc R i] := by show (if (rG R i).1 then _ else _) = _; rw [if_neg (by rw [hr]; simp)]
theorem Znl {i : Nat} (hr : (rG R i).1 = true) : ixs R (i + 1) = ixs R i := by show (if (rG R i).1 then _ else _) = _; rw [if_pos hr]
theorem ZVk {i : Nat} (hr : (rG R i).1 = false) : ixs R (i + 1) = ixs R i + Zkc R i / (rG R i).2 := by show (if (rG R i).1 then _ else _) = _; rw [if_neg (by rw [hr]; simp)]
theorem Zwk {α : Type} (l : List α) : (((l.length : Int)) == ((0 : Int))) = decide (l.length = 0) := by
  rw [Bool.eq_iff_iff, beq_iff_eq, decide_eq_true_iff]; omega
theorem ZSj (hR : okR R) (h0 : ZKd R = 0) : ZEe R = some (ZKh R) := by
  have h := Ran.of h0; have n64 := h.n64; unfold ZEe ZKh; have c0 : ((0 : Int) != 0) = false := rfl; rw [Z6k hR h0, Ze]; simp only; rw [c0, ZI, Zwk]; by_cases hz : (dr R R.length).length = 0
  · rw [decide_eq_true hz, ZK, if_pos hz]
  rw [decide_eq_false hz, ZI, if_neg hz]; have hl := ZXg R R.length; refine Z8b (y := (ixs R R.length, ((dr R R.length).length : Int))) (Z8b (y := (ixs R R.length, ((dr R R.length).length : Int))) (ZBe (fun k => (ixs R k, ((dr R k).length : Int), (k : Int))) R.length rfl (by omega) (fun i hi => ?_) ?_) rfl) ?_
  · simp only; rw [decide_eq_true (by omega), ZK, Z3 hi, Ze]; have e2 := Zvb (d := (false, (0 : Rat))) hi; by_cases hr : (rG R i).1 = true
    · have hr' : R[i].1 = true := by rw [← e2]; exact hr
      rw [hr', Bool.not_true, ZI, Ze, Z8 (by omega) (by omega), Ze, Znl hr, Zmj hr]; rfl
    · have hrf : (rG R i).1 = false := by simpa using hr
      have hr' : R[i].1 = false := by rw [← e2]; exact hrf
      have hd := ZXg R i; have e3 : R[i].2 = (rG R i).2 := by rw [← e2]
      have zv := Zrk h hR hi hrf; have za := hR.at hi; rw [hr', Bool.not_false, ZK, idx_q, dr_at hi hrf, Ze, e3, Zii zv za (by omega) (dist_ne h hi), Ze, Zfk (Zni h hR i (by omega)) (Zfe zv za) (by omega), Ze, Z8 (by omega) (by omega), Ze, Ze, Z8 (by omega) (by omega), Ze, ZVk hrf, ZBi hrf, List.length_append]; rfl
  · simp only; rw [decide_eq_false (by omega), ZI]
  · have hne : (((dr R R.length).length : Int) : Rat) ≠ 0 := by
      intro hc; have := Rat.intCast_eq_zero_iff.1 hc; omega
    rw [ZKi, Ze, Zii (Zni h hR R.length (Nat.le_refl _)) (ZYd (by omega)) (by omega) hne, Ze]
end
noncomputable def Zzf (i : Int) (start : Int) (slope : Int) : Option (Rat) :=
 bnd (chk .i64 (((1 : Int)) + (IntKind.i64.wrap start))) fun a =>
 bnd (chk .i64 (i * (IntKind.i64.wrap slope))) fun b =>
 bnd (chk .i64 (a + b)) fun c =>
 bnd (Z1b c) fun d =>
 some d
noncomputable def ZLg (kinds : (List Bool)) (start : Int) (slope : Int) (factor : Int) (unit : Int) : Option (Bool) :=
 bnd (ifb (decide ((kinds.length : Int) < (3 : Int)))
 (some true)
 (some (decide ((60 : Int) < (kinds.length : Int)))))
 (fun (r : Bool) =>
 (ifb (r)
 (bnd (Zue ) fun t =>
 some t)
 (bnd (ZRa 1 (([] : (List Bool)) ++ kinds)) fun R =>
 bnd (chk .i64 (((((([] : (List Bool)) ++ kinds)).length : Int)) - ((1 : Int)))) fun g =>
 bnd (idx ((([] : (List Bool)) ++ kinds)) ((0 : Int))) fun S =>
 bnd (idx ((((([] : (List Bool)) ++ kinds)).set ((0 : Int)).toNat true)) g) fun T =>
 bnd (chk .i64 (((1 : Int)) + (IntKind.i64.wrap factor))) fun u =>
 bnd (Z1b u) fun h =>
 bnd (chk .i64 (((1 : Int)) + (IntKind.i64.wrap unit))) fun v =>
 bnd (Z1b v) fun w =>
 bnd (bnd (Z4 (fun s : (List (Bool × Rat)) × (List (Bool × Rat)) × (List Rat) × Int => match s with
 | (i, j, b, c) =>
 (ifb (decide (c < (((((((([] : (List Bool)) ++ kinds)).set ((0 : Int)).toNat true)).set (g).toNat true)).length : Int)))
 (bnd (idx ((((((([] : (List Bool)) ++ kinds)).set ((0 : Int)).toNat true)).set (g).toNat true)) c) fun a =>
 bnd (Zzf c start slope) fun d =>
 bnd (ifb (!(a))
 (bnd (ZRa 56 (b ++ [d])) fun U =>
 bnd (ZTc d h) fun x =>
 some (((b ++ [d]), x.1)))
 (some ((b, d))))
 (fun (p : (List Rat) × Rat) => match p with
 | (y, k) =>
 (bnd (ZRa 64 (i ++ [(a, k)])) fun V =>
 bnd (ZOb k w) fun o =>
 bnd (ZRa 64 (j ++ [(a, o)])) fun W =>
 bnd (chk .i64 (c + ((1 : Int)))) fun z =>
 some (.inl (((i ++ [(a, k)]), (j ++ [(a, o)]), y, z))))))
 (some (.inr ((i, j, b)))))) Zca ((([] : (List (Bool × Rat))), ([] : (List (Bool × Rat))), ([] : (List Rat)), (0 : Int))))
 (fun (p : (List (Bool × Rat)) × (List (Bool × Rat)) × (List Rat)) => match p with
 | (A, B, C) =>
 (some ((A, B, C)))))
 (fun (p : (List (Bool × Rat)) × (List (Bool × Rat)) × (List Rat)) => match p with
 | (q, D, l) =>
 (bnd (Z3e q) fun e =>
 bnd (ifb (e.2 != ((0 : Int)))
 (some true)
 (some (((e.1.length : Int)) != ((l.length : Int)))))
 (fun (E : Bool) =>
 (ifb (E)
 (some false)
 (bnd (bnd (Z4 (fun s : Int => match s with
 | f =>
 (ifb (decide (f < (e.1.length : Int)))
 (bnd (idx e.1 f) fun F =>
 bnd (idx l f) fun G =>
 bnd (Zye F G) fun H =>
 ifb (!(H))
 (some (.inr ((.inl false))))
 (bnd (chk .i64 (f + ((1 : Int)))) fun I =>
 some (.inl I)))
 (some (.inr ((.inr (()))))))) Zca ((0 : Int)))
 (fun (p : (Bool) ⊕ (Unit)) => match p with
 | .inl J =>
 (some ((.inr J)))
 | .inr (()) =>
 (some ((.inl (()))))))
 (fun (p : (Unit) ⊕ (Bool)) => match p with
 | .inl (()) =>
 (bnd (ZEe q) fun m =>
 bnd (ZEe D) fun n =>
 ifb (((l.length : Int)) == ((0 : Int)))
 (bnd (ifb (m.2 == ((5 : Int)))
 (ifb (n.2 == ((5 : Int)))
 (bnd (Zue ) fun K =>
 some K)
 (some false))
 (some false))
 (fun (L : Bool) =>
 (some L)))
 (bnd (ifb (m.2 == ((0 : Int)))
 (ifb (n.2 == ((0 : Int)))
 (bnd (Zye m.1 h) fun M =>
 ifb (M)
 (bnd (Zye n.1 h) fun N =>
 ifb (N)
 (bnd (Zue ) fun O =>
 some O)
 (some false))
 (some false))
 (some false))
 (some false))
 (fun (P : Bool) =>
 (some P))))
 | .inr Q =>
 (some Q))))))))))
set_option maxRecDepth 100000
def AT (a b : Int) (i : Nat) : Rat := ((1 + a + (i : Int) * b : Int) : Rat)
theorem Znj {a b : Int} (ha : 0 ≤ a) (hb : 0 ≤ b) (i : Nat) : 0 < AT a b i := by
  unfold AT; have h : (0 : Int) < 1 + a + (i : Int) * b := by have := Int.mul_nonneg (show (0 : Int) ≤ (i : Int) by omega) hb; omega
  exact Rat.intCast_pos.2 h
theorem AT_line (a b : Int) (i p q : Nat) (hpi : p < i) (hiq : i < q) : AT a b p + (AT a b q - AT a b p) * ((((i : Int) - (p : Int) : Int) : Rat) / ((((q : Nat) : Int) - (p : Int) : Int) : Rat)) = AT a b i := by
  unfold AT; simp only [Rat.intCast_add, Rat.intCast_mul, Rat.intCast_sub]; have hne : ((q : Int) : Rat) - ((p : Int) : Rat) ≠ 0 := by
    rw [← Rat.intCast_sub]; intro h; have := Rat.intCast_eq_zero_iff.1 h; omega
  generalize ((q : Int) : Rat) = Q at *; generalize ((p : Int) : Rat) = P at *; generalize ((i : Int) : Rat) = I at *; generalize ((a : Int) : Rat) = A at *; generalize ((b : Int) : Rat) = B at *; have : (((1 : Int) : Rat) + A + Q * B - (((1 : Int) : Rat) + A + P * B)) * ((I - P) / (Q - P)) = (I - P) * B := by
    rw [show (((1 : Int) : Rat) + A + Q * B - (((1 : Int) : Rat) + A + P * B)) = (Q - P) * B by grind, Rat.div_def]; have h1 : (Q - P) * (Q - P)⁻¹ = 1 := Rat.mul_inv_cancel _ hne; have : (Q - P) * B * ((I - P) * (Q - P)⁻¹) = ((Q - P) * (Q - P)⁻¹) * ((I - P) * B) := by grind
    rw [this, h1]; grind
  rw [this]; grind
def mkR (k : Nat → Bool) (a b : Int) (f c : Rat) (n : Nat) : List (Bool × Rat) := (List.range n).map fun i => (k i, (if k i then AT a b i else AT a b i / f) * c)
def wl (k : Nat → Bool) (a b : Int) : Nat → List Rat
  | 0 => []
  | i + 1 => if k i then wl k a b i else wl k a b i ++ [AT a b i]
theorem Zci (k : Nat → Bool) (a b : Int) : ∀ n, (wl k a b n).length ≤ n
  | 0 => by simp [wl]
  | n + 1 => by
    have := Zci k a b n
    unfold wl
    split
    · omega
    · simp; omega
section
variable {k : Nat → Bool} {a b : Int} {f c : Rat} {n : Nat}
theorem Zid : (mkR k a b f c n).length = n := by unfold mkR; simp
theorem ZWi {i : Nat} (h : i < n) (h' : i < (mkR k a b f c n).length) : (mkR k a b f c n)[i] = (k i, (if k i then AT a b i else AT a b i / f) * c) := by
  have e : (mkR k a b f c n)[i]? = some (k i, (if k i then AT a b i else AT a b i / f) * c) := by unfold mkR; rw [List.getElem?_map, List.getElem?_range h]; rfl
  rw [List.getElem?_eq_getElem h'] at e; exact Option.some.inj e
theorem ZNd {i : Nat} (h : i < n) : rG (mkR k a b f c n) i = (k i, (if k i then AT a b i else AT a b i / f) * c) := by
  unfold rG; rw [Zvb (by rw [Zid]; exact h), ZWi h]
theorem Ztk : mkR k a b f c (n + 1) = mkR k a b f c n ++ [(k n, (if k n then AT a b n else AT a b n / f) * c)] := by
  unfold mkR; rw [List.range_succ, List.map_append]; rfl
structure OKD (k : Nat → Bool) (a b : Int) (f c : Rat) (n : Nat) : Prop where
  n3 : 3 ≤ n
  n60 : n ≤ 60
  ha : 0 ≤ a ∧ a ≤ 255
  hb : 0 ≤ b ∧ b ≤ 255
  hf : 0 < f ∧ sz 10 f
  hc : 0 < c ∧ sz 10 c
  first : k 0 = true
  last : k (n - 1) = true
theorem AT_sz (h : OKD k a b f c n) {i : Nat} (hi : i < n) : sz 16 (AT a b i) := by
  unfold AT; have h1 := Zyf (1 + a + (i : Int) * b); have h2 : (i : Int) * b ≤ 60 * 255 := Int.mul_le_mul (by have := h.n60; omega) (by have := h.hb; omega) (by have := h.hb; omega) (by omega); have h3 : 0 ≤ (i : Int) * b := Int.mul_nonneg (by omega) (by have := h.hb; omega); have h4 := h.ha; have h5 : bl (1 + a + (i : Int) * b).natAbs ≤ 16 := ZZb (show _ < 2 ^ 16 by omega); exact ⟨by omega, by omega⟩
theorem pos_div (h : OKD k a b f c n) (i : Nat) : 0 < AT a b i / f := by
  rw [Rat.div_def]; exact Rat.mul_pos (Znj h.ha.1 h.hb.1 i) (Rat.inv_pos.2 h.hf.1)
theorem mkR_pos (h : OKD k a b f c n) (i : Nat) : 0 < (if k i then AT a b i else AT a b i / f) * c := by
  refine Rat.mul_pos ?_ h.hc.1; split
  · exact Znj h.ha.1 h.hb.1 i
  · exact pos_div h i
theorem mkR_sz (h : OKD k a b f c n) {i : Nat} (hi : i < n) : sz 64 ((if k i then AT a b i else AT a b i / f) * c) := by
  refine (ZKe (k := 30) ?_ h.hc.2).mono (by omega); split
  · exact (AT_sz h hi).mono (by omega)
  · exact (Zfe (AT_sz h hi) h.hf.2).mono (by omega)
theorem Z7i (h : OKD k a b f c n) : okR (mkR k a b f c n) := fun i hi => by
  have hi' : i < n := by rw [Zid] at hi; exact hi
  rw [ZWi hi']
  exact mkR_sz h hi'
theorem ZKg (h : OKD k a b f c n) : ZKd (mkR k a b f c n) = 0 := by
  have h3 := h.n3; have h60 := h.n60; unfold ZKd; rw [Zid, if_neg (by omega)]; have e : ((mkR k a b f c n).any fun x => decide (x.2 ≤ 0)) = false := by
    rw [List.any_eq_false]; intro x hx; obtain ⟨i, hi, rfl⟩ := List.getElem_of_mem hx; have hi' : i < n := by rw [Zid] at hi; exact hi
    rw [ZWi hi']; have := mkR_pos h i; have : ¬ (if k i then AT a b i else AT a b i / f) * c ≤ 0 := by grind
    simpa using this
  rw [e, if_neg (by simp)]; have g0 := ZNd (k := k) (a := a) (b := b) (f := f) (c := c) (n := n) (i := 0) (by omega); have g1 := ZNd (k := k) (a := a) (b := b) (f := f) (c := c) (n := n) (i := n - 1) (by omega); unfold rG at g0 g1; rw [g0, g1, h.first, h.last]; rfl
theorem Zwj (h : OKD k a b f c n) {i : Nat} (hi : i < n) (hr : k i = false) : Zkc (mkR k a b f c n) i = AT a b i * c := by
  have hR := Ran.of (ZKg h); have hi' : i < (mkR k a b f c n).length := by rw [Zid]; exact hi
  have hr' : (rG (mkR k a b f c n) i).1 = false := by rw [ZNd hi]; exact hr
  obtain ⟨g0, g1, g2, g3⟩ := gaps hR hi' hr'; have p1 := (ZXk hR i g0 (by omega)).1; have q1 := (Zok hR hi').2.1; rw [Zid] at g3; have p2 := ZNd (k := k) (a := a) (b := b) (f := f) (c := c) (n := n) (i := pr (mkR k a b f c n) i) (by omega); have q2 := ZNd (k := k) (a := a) (b := b) (f := f) (c := c) (n := n) (i := i + nx (mkR k a b f c n) i) (by omega); unfold Zkc; generalize pr (mkR k a b f c n) i = p at *; generalize nx (mkR k a b f c n) i = q at *; have kp : k p = true := by have : (rG (mkR k a b f c n) p).1 = true := p1; rw [p2] at this; exact this
  have kq : k (i + q) = true := by have : (rG (mkR k a b f c n) (i + q)).1 = true := q1; rw [q2] at this; exact this
  rw [p2, q2, kp, kq]; simp only [if_true]; have := AT_line a b i p (i + q) g1 (by omega); generalize (((i : Int) - (p : Int) : Int) : Rat) / ((((i + q : Nat) : Int) - (p : Int) : Int) : Rat) = z at *; grind
theorem ZKj (h : OKD k a b f 1 n) : ∀ m, m ≤ n → dr (mkR k a b f 1 n) m = wl k a b m
  | 0, _ => rfl
  | m + 1, hm => by
    have ih := ZKj h m (by omega)
    have g := ZNd (k := k) (a := a) (b := b) (f := f) (c := 1) (n := n) (i := m) (by omega)
    unfold wl
    cases hk : k m
    · rw [ZBi (by rw [g]; exact hk), ih, Zwj h (by omega) hk, if_neg (by simp)]
      rw [show AT a b m * 1 = AT a b m by grind]
    · rw [Zmj (by rw [g]; exact hk), ih, if_pos rfl]
theorem Zoj (h : OKD k a b f c n) : ∀ m, m ≤ n → (dr (mkR k a b f c n) m).length = (wl k a b m).length
  | 0, _ => rfl
  | m + 1, hm => by
    have ih := Zoj h m (by omega)
    have g := ZNd (k := k) (a := a) (b := b) (f := f) (c := c) (n := n) (i := m) (by omega)
    unfold wl
    cases hk : k m
    · rw [ZBi (by rw [g]; exact hk), if_neg (by simp), List.length_append, List.length_append, ih]; rfl
    · rw [Zmj (by rw [g]; exact hk), ih, if_pos rfl]
theorem ZQj (h : OKD k a b f c n) : ∀ m, m ≤ n → ixs (mkR k a b f c n) m = (((wl k a b m).length : Int) : Rat) * f
  | 0, _ => by show (0 : Rat) = ((0 : Int) : Rat) * f; rw [show ((0 : Int) : Rat) = 0 from rfl]; grind
  | m + 1, hm => by
    have ih := ZQj h m (by omega)
    have g := ZNd (k := k) (a := a) (b := b) (f := f) (c := c) (n := n) (i := m) (by omega)
    unfold wl
    cases hk : k m
    · rw [ZVk (by rw [g]; exact hk), ih, Zwj h (by omega) hk, g, hk, if_neg (by simp), if_neg (by simp), List.length_append]
      simp only [List.length_singleton]
      have e1 : AT a b m * c / (AT a b m / f * c) = f := by
        have ha := Znj h.ha.1 h.hb.1 m; have hc := h.hc.1; have hf := h.hf.1; have n1 : AT a b m * c ≠ 0 := by have := Rat.mul_pos ha hc; grind
        have hfi := Rat.mul_inv_cancel f (show f ≠ 0 by grind); have hY : AT a b m / f * c ≠ 0 := by
          have h1 : 0 < AT a b m / f := by rw [Rat.div_def]; exact Rat.mul_pos ha (Rat.inv_pos.2 hf)
          have := Rat.mul_pos h1 hc; grind
        have hYi := Rat.mul_inv_cancel _ hY; have hX : AT a b m * c = f * (AT a b m / f * c) := by
          rw [Rat.div_def]; have : f * (AT a b m * f⁻¹ * c) = (f * f⁻¹) * (AT a b m * c) := by grind
          rw [this, hfi]; grind
        rw [Rat.div_def, hX, Rat.mul_assoc, hYi]; grind
      rw [e1]; have e3 : (((wl k a b m).length + 1 : Nat) : Int) = ((wl k a b m).length : Int) + 1 := by omega
      rw [e3, Rat.intCast_add]; rw [show ((1 : Int) : Rat) = 1 from rfl]; grind
    · rw [Znl (by rw [g]; exact hk), ih, if_pos rfl]
theorem ZJj (h : OKD k a b f c n) : ZKh (mkR k a b f c n) = if (wl k a b n).length = 0 then (0, 5) else (f, 0) := by
  unfold ZKh; rw [Zid, Zoj h n (Nat.le_refl _), ZQj h n (Nat.le_refl _)]; split
  · rfl
  · rename_i hz; have hne : (((wl k a b n).length : Int) : Rat) ≠ 0 := fun hh => by have := Rat.intCast_eq_zero_iff.1 hh; omega
    have e : (((wl k a b n).length : Int) : Rat) * f / (((wl k a b n).length : Int) : Rat) = f := by
      rw [Rat.div_def]; have := Rat.mul_inv_cancel _ hne; grind
    rw [e]
end
theorem ZWl {a b : Int} (ha : 0 ≤ a ∧ a ≤ 255) (hb : 0 ≤ b ∧ b ≤ 255) {i : Nat} (hi : i ≤ 60) : Zzf (i : Int) a b = some (AT a b i) := by
  unfold Zzf Z1b AT; have h2 : (i : Int) * b ≤ 60 * 255 := Int.mul_le_mul (by omega) (by omega) (by omega) (by omega); have h3 : 0 ≤ (i : Int) * b := Int.mul_nonneg (by omega) (by omega); rw [Zad (Zqb.2 ⟨by omega, by omega⟩), Zad (Zqb.2 ⟨by omega, by omega⟩), Z8 (by omega) (by omega), Ze, Z8 (by omega) (by omega), Ze, Z8 (by omega) (by omega), Ze, Ze]
theorem ZQo (kinds : List Bool) (a b c d : Int) (ha : 0 ≤ a ∧ a ≤ 255) (hb : 0 ≤ b ∧ b ≤ 255) (hc : 0 ≤ c ∧ c ≤ 255) (hd : 0 ≤ d ∧ d ≤ 255) : ZLg kinds a b c d = some true := by
  unfold ZLg; rw [Zbo]; by_cases n1 : kinds.length < 3
  · rw [decide_eq_true (by omega), ZK, Ze, ZK, Ze]
  rw [decide_eq_false (by omega), ZI]; by_cases n2 : 60 < kinds.length
  · rw [decide_eq_true (by omega), Ze, ZK, Ze]
  rw [decide_eq_false (by omega), Ze, ZI, List.nil_append, Zfh (by omega), Ze, Z8 (by omega) (by omega), Ze]; have i0 : idx kinds (0 : Int) = some kinds[0] := Z3 (l := kinds) (i := 0) (by omega); have e1 : (kinds.length : Int) - 1 = ((kinds.length - 1 : Nat) : Int) := by omega
  have hs : (kinds.set ((0 : Int)).toNat true).length = kinds.length := List.length_set ..; rw [i0, Ze, e1, Z3 (l := kinds.set ((0 : Int)).toNat true) (i := kinds.length - 1) (by omega), Ze]; rw [Zad (x := c) (Zqb.2 ⟨by omega, by omega⟩), Zad (x := d) (Zqb.2 ⟨by omega, by omega⟩), Z8 (by omega) (by omega), Ze, Z8 (by omega) (by omega)]; have q1 : ∀ x : Int, Z1b x = some (x : Rat) := fun _ => rfl; simp only [q1, Ze]; obtain ⟨k, hk⟩ : ∃ k : Nat → Bool, k = fun i => ((kinds.set ((0 : Int)).toNat true).set (((kinds.length - 1 : Nat) : Int)).toNat true).getD i false := ⟨_, rfl⟩; have hn : ((kinds.set ((0 : Int)).toNat true).set (((kinds.length - 1 : Nat) : Int)).toNat true).length = kinds.length := by rw [List.length_set, hs]
  have k0 : k 0 = true := by
    rw [hk]; show ((kinds.set ((0 : Int)).toNat true).set (((kinds.length - 1 : Nat) : Int)).toNat true).getD 0 false = true; rw [List.getD_eq_getElem?_getD, Int.toNat_natCast, List.getElem?_set_ne (by omega)]; show ((kinds.set 0 true)[0]?).getD false = true; rw [List.getElem?_set_self (by omega)]; rfl
  have k1 : k (kinds.length - 1) = true := by
    rw [hk]; show ((kinds.set ((0 : Int)).toNat true).set (((kinds.length - 1 : Nat) : Int)).toNat true).getD (kinds.length - 1) false = true; rw [List.getD_eq_getElem?_getD, Int.toNat_natCast, List.getElem?_set_self (by omega)]; rfl
  have kg : ∀ i, (hi : i < ((kinds.set ((0 : Int)).toNat true).set (((kinds.length - 1 : Nat) : Int)).toNat true).length) → ((kinds.set ((0 : Int)).toNat true).set (((kinds.length - 1 : Nat) : Int)).toNat true)[i] = k i := fun i hi => by
    rw [hk]; exact (Zvb hi).symm
  generalize ((kinds.set ((0 : Int)).toNat true).set (((kinds.length - 1 : Nat) : Int)).toNat true) = L at *; clear hk; have pos1 : ∀ x : Int, 0 ≤ x ∧ x ≤ 255 → 0 < (((1 + x : Int) : Rat)) ∧ sz 10 ((1 + x : Int) : Rat) := fun x hx => by
    refine ⟨Rat.intCast_pos.2 (by omega), ?_⟩; have h2 := Zyf (1 + x); have h3 : bl (1 + x).natAbs ≤ 10 := ZZb (show _ < 2 ^ 10 by omega); exact ⟨by omega, by omega⟩
  have hf := pos1 c hc; have hu := pos1 d hd; generalize ((1 + c : Int) : Rat) = f at *; generalize ((1 + d : Int) : Rat) = u at *; have o1 : OKD k a b f 1 kinds.length := ⟨by omega, by omega, ha, hb, hf, ⟨by grind, sz_one.mono (by omega)⟩, k0, k1⟩; have ou : OKD k a b f u kinds.length := ⟨by omega, by omega, ha, hb, hf, hu, k0, k1⟩; rw [hn]; refine Z8b (y := (mkR k a b f 1 kinds.length, mkR k a b f u kinds.length, wl k a b kinds.length)) (Z8b (y := (mkR k a b f 1 kinds.length, mkR k a b f u kinds.length, wl k a b kinds.length)) (ZBe (fun i => (mkR k a b f 1 i, mkR k a b f u i, wl k a b i, (i : Int))) kinds.length rfl (by omega) (fun i hi => ?_) ?_) rfl) ?_
  · have wlen := Zci k a b i; have zA := AT_sz o1 hi; have r56 : ZRa 56 (wl k a b i ++ [AT a b i]) = some () := Zfh (by rw [List.length_append, List.length_singleton]; omega); have r64 : ∀ (cc : Rat) x, ZRa 64 (mkR k a b f cc i ++ [x]) = some () := fun cc x => Zfh (by rw [List.length_append, List.length_singleton, Zid]; omega); have hfn : f ≠ 0 := by grind
    simp only; rw [decide_eq_true (by omega), ZK, Z3 (i := i) (by omega), Ze, kg i (by omega), ZWl ha hb (by omega), Ze]; refine Z8b (y := (wl k a b (i + 1), if k i then AT a b i else AT a b i / f)) ?_ ?_
    · have ew : wl k a b (i + 1) = if k i then wl k a b i else wl k a b i ++ [AT a b i] := rfl; rw [ew]
      cases hki : k i
      · rw [Bool.not_false, ZK, r56, Ze, Zrl zA hf.2 (by omega) hfn, Ze]; rfl
      · rw [Bool.not_true, ZI]; rfl
    · have zz : sz 30 (if k i then AT a b i else AT a b i / f) := by
        split
        · exact zA.mono (by omega)
        · exact (Zfe zA hf.2).mono (by omega)
      simp only; have m1 : mkR k a b f 1 (i + 1) = mkR k a b f 1 i ++ [(k i, (if k i then AT a b i else AT a b i / f))] := by
        rw [Ztk, show (if k i then AT a b i else AT a b i / f) * 1 = (if k i then AT a b i else AT a b i / f) by grind]
      have mu : mkR k a b f u (i + 1) = mkR k a b f u i ++ [(k i, (if k i then AT a b i else AT a b i / f) * u)] := Ztk; rw [r64, Ze, Z4k zz hu.2 (by omega), Ze, r64, Ze, Z8 (by omega) (by omega), Ze, m1, mu]; rfl
  · simp only; rw [decide_eq_false (by omega), ZI]
  simp only; rw [Z6k (Z7i o1) (ZKg o1), ZSj (Z7i o1) (ZKg o1), ZSj (Z7i ou) (ZKg ou), Zid, ZKj o1 _ (Nat.le_refl _), ZJj o1, ZJj ou]; have wlen := Zci k a b kinds.length; generalize wl k a b kinds.length = W at *; have b0 : ((0 : Int) != 0) = false := rfl; simp only [Ze, b0, ZI, bne_self_eq_false]; have qs : ∀ x y : Rat, Zye x y = some (decide (x = y)) := fun _ _ => rfl; refine Z8b (y := .inl ()) (Z8b (ZBe (r := .inr ()) (fun i => (i : Int)) W.length rfl (by omega) (fun i hi => ?_) ?_) rfl) ?_
  · rw [decide_eq_true (by omega), ZK, Z3 hi, Ze, Ze, qs, Ze, decide_eq_true rfl, Bool.not_true, ZI, Z8 (by omega) (by omega), Ze]; rfl
  · rw [decide_eq_false (by omega), ZI]
  · simp only; rw [Zwk]; by_cases hz : W.length = 0
    · rw [decide_eq_true hz, ZK, if_pos hz]; rfl
    · rw [decide_eq_false hz, ZI, if_neg hz, qs]; simp only [beq_self_eq_true, ZK, Ze, decide_true]
end Go.Eng
namespace Go.Eng
open Go.RowKit
theorem Zi {α : Type _} {a b : α} (h : some a = some b) : a = b := Option.some.inj h
theorem Zv (b : Bool) : b = true ∨ b = false := (Bool.eq_false_or_eq_true b)
theorem leT {a b c : Zd} (h : a.le b) (k : b.le c) : a.le c := Zd.le_trans h k
theorem leR (v : Zd) : v.le v := Zd.le_refl v
theorem Zm {P : Program} {Q : Exit → Act → World → Prop} {a : Act} {w : World} {id : Nat} {l : List Oper} (h : wpList P l.toArray Q l a w) : (Code.region id l.toArray false).wp P Q a w := wp_region_lit h
theorem Zg {P : Program} {Q : Exit → Act → World → Prop} {a : Act} {w : World} {x y : Code} (h : ∀ K : Act → World → Prop, (∀ a w, y.wp P Q a w → K a w) → x.wp P (Exit.then K Q) a w) : (Code.seq x y).wp P Q a w := wp_seq_k h
theorem Zq {α : Type} {A : Rep α} {v v' : Zd} {cs : List Value} {x : α} (hv : v.le v') (h : A.rel v cs x) : A.rel v' cs x := A.mono hv h
theorem Zoa {α : Type} (A : Rep α) {v : Zd} {cs : List Value} {x : α} (h : A.rel v cs x) : cs.all ZFa = true := A.flat h
theorem Atm {v v' : Zd} {b off : Nat} {cs : List Value} (h : v.le v') (k : At v b off cs) : At v' b off cs := At.mono h k
end Go.Eng
namespace Go.Eng
open Go.Proofs Go.RowKit
theorem Z9j : Z7f Tryz.prog 291 20 1 := ⟨5, fun _ => by kernel_rfl, fun _ => by kernel_rfl⟩
theorem Zrb : Z7f Tryz.prog 51 3 2 := ⟨50, fun _ => by kernel_rfl, fun _ => by kernel_rfl⟩
theorem Z5c : Zsd Tryz.prog 211 212 .u64 .u32 := fun _ _ => by kernel_rfl
theorem ZGk : Zsd Tryz.prog 211 5 .u64 .u8 := fun _ _ => by kernel_rfl
theorem ZAk : Zsd Tryz.prog 212 2 .u32 .i64 := fun _ _ => by kernel_rfl
theorem ZBc : Zsd Tryz.prog 212 211 .u32 .u64 := fun _ _ => by kernel_rfl
theorem Zth : Zsd Tryz.prog 2 211 .i64 .u64 := fun _ _ => by kernel_rfl
theorem ZLl : Zsd Tryz.prog 2 212 .i64 .u32 := fun _ _ => by kernel_rfl
theorem Zpi : Zsd Tryz.prog 3 253 .i64 .u64 := fun _ _ => by kernel_rfl
theorem Z7g : Zsd Tryz.prog 5 2 .u8 .i64 := fun _ _ => by kernel_rfl
theorem k_cv5_3 : Zsd Tryz.prog 5 3 .u8 .i64 := fun _ _ => by kernel_rfl
theorem ZJk : Elem Tryz.prog 263 9 1 16 (Value.string (Zha [])) := ⟨Tryz.underlying263, by kernel_rfl, rfl, by decide⟩
theorem Zmg : Elem Tryz.prog 28 3 1 8 (Value.int IntKind.i64 0) := ⟨Tryz.underlying28, by kernel_rfl, rfl, by decide⟩
theorem Zlc : Elem Tryz.prog 30 211 1 8 (Value.int IntKind.u64 0) := ⟨Tryz.underlying30, by kernel_rfl, rfl, by decide⟩
theorem ZSb : Elem Tryz.prog 40 212 1 4 (Value.int IntKind.u32 0) := ⟨Tryz.underlying40, by kernel_rfl, rfl, by decide⟩
theorem Z8g : Elem Tryz.prog 76 92 4 64 (Value.agg #[Value.bool false, Value.bool false, Value.slice none 0 0, Value.slice none 0 0]) := ⟨Tryz.underlying76, by kernel_rfl, rfl, by decide⟩
theorem ZDd : Elem Tryz.prog 80 34 3 56 (Value.agg #[Value.bool false, Value.slice none 0 0, Value.slice none 0 0]) := ⟨Tryz.underlying80, by kernel_rfl, rfl, by decide⟩
theorem Zll : Elem Tryz.prog 85 42 3 56 (Value.agg #[Value.bool false, Value.slice none 0 0, Value.slice none 0 0]) := ⟨Tryz.underlying85, by kernel_rfl, rfl, by decide⟩
theorem k_el89 : Elem Tryz.prog 89 4 1 1 (Value.bool false) := ⟨Tryz.underlying89, by kernel_rfl, rfl, by decide⟩
theorem k_en100 : ZU Tryz.prog 100 := fun _ _ => by kernel_rfl
theorem ZXd : ZU Tryz.prog 101 := fun _ _ => by kernel_rfl
theorem Z6f : ZU Tryz.prog 102 := fun _ _ => by kernel_rfl
theorem Z3f : ZU Tryz.prog 103 := fun _ _ => by kernel_rfl
theorem ZZc : ZU Tryz.prog 104 := fun _ _ => by kernel_rfl
theorem k_en105 : ZU Tryz.prog 105 := fun _ _ => by kernel_rfl
theorem k_en106 : ZU Tryz.prog 106 := fun _ _ => by kernel_rfl
theorem k_en108 : ZU Tryz.prog 108 := fun _ _ => by kernel_rfl
theorem ZCi : ZU Tryz.prog 110 := fun _ _ => by kernel_rfl
theorem k_en112 : ZU Tryz.prog 112 := fun _ _ => by kernel_rfl
theorem Z3i : ZU Tryz.prog 114 := fun _ _ => by kernel_rfl
theorem Zxk : ZU Tryz.prog 115 := fun _ _ => by kernel_rfl
theorem k_en116 : ZU Tryz.prog 116 := fun _ _ => by kernel_rfl
theorem k_en117 : ZU Tryz.prog 117 := fun _ _ => by kernel_rfl
theorem k_en118 : ZU Tryz.prog 118 := fun _ _ => by kernel_rfl
theorem k_en119 : ZU Tryz.prog 119 := fun _ _ => by kernel_rfl
theorem k_en120 : ZU Tryz.prog 120 := fun _ _ => by kernel_rfl
theorem k_en121 : ZU Tryz.prog 121 := fun _ _ => by kernel_rfl
theorem ZEi : ZU Tryz.prog 124 := fun _ _ => by kernel_rfl
theorem Zph : ZU Tryz.prog 126 := fun _ _ => by kernel_rfl
theorem k_en127 : ZU Tryz.prog 127 := fun _ _ => by kernel_rfl
theorem Zak : ZU Tryz.prog 137 := fun _ _ => by kernel_rfl
theorem k_en138 : ZU Tryz.prog 138 := fun _ _ => by kernel_rfl
theorem Z3d : ZU Tryz.prog 139 := fun _ _ => by kernel_rfl
theorem k_en140 : ZU Tryz.prog 140 := fun _ _ => by kernel_rfl
theorem k_en141 : ZU Tryz.prog 141 := fun _ _ => by kernel_rfl
theorem k_en144 : ZU Tryz.prog 144 := fun _ _ => by kernel_rfl
theorem Zdh : ZU Tryz.prog 145 := fun _ _ => by kernel_rfl
theorem ZCg : ZU Tryz.prog 146 := fun _ _ => by kernel_rfl
theorem Zej : ZU Tryz.prog 147 := fun _ _ => by kernel_rfl
theorem Z3c : ZU Tryz.prog 149 := fun _ _ => by kernel_rfl
theorem Z5i : ZU Tryz.prog 15 := fun _ _ => by kernel_rfl
theorem ZFk : ZU Tryz.prog 150 := fun _ _ => by kernel_rfl
theorem Zgk : ZU Tryz.prog 151 := fun _ _ => by kernel_rfl
theorem k_en152 : ZU Tryz.prog 152 := fun _ _ => by kernel_rfl
theorem k_en154 : ZU Tryz.prog 154 := fun _ _ => by kernel_rfl
theorem Z8i : ZU Tryz.prog 155 := fun _ _ => by kernel_rfl
theorem ZJd : ZU Tryz.prog 156 := fun _ _ => by kernel_rfl
theorem k_en157 : ZU Tryz.prog 157 := fun _ _ => by kernel_rfl
theorem ZRk : ZU Tryz.prog 158 := fun _ _ => by kernel_rfl
theorem k_en159 : ZU Tryz.prog 159 := fun _ _ => by kernel_rfl
theorem k_en161 : ZU Tryz.prog 161 := fun _ _ => by kernel_rfl
theorem Zdk : ZU Tryz.prog 167 := fun _ _ => by kernel_rfl
theorem k_en168 : ZU Tryz.prog 168 := fun _ _ => by kernel_rfl
theorem k_en169 : ZU Tryz.prog 169 := fun _ _ => by kernel_rfl
theorem k_en17 : ZU Tryz.prog 17 := fun _ _ => by kernel_rfl
theorem k_en170 : ZU Tryz.prog 170 := fun _ _ => by kernel_rfl
theorem k_en171 : ZU Tryz.prog 171 := fun _ _ => by kernel_rfl
theorem k_en172 : ZU Tryz.prog 172 := fun _ _ => by kernel_rfl
theorem k_en173 : ZU Tryz.prog 173 := fun _ _ => by kernel_rfl
theorem k_en174 : ZU Tryz.prog 174 := fun _ _ => by kernel_rfl
theorem k_en175 : ZU Tryz.prog 175 := fun _ _ => by kernel_rfl
theorem ZHj : ZU Tryz.prog 176 := fun _ _ => by kernel_rfl
theorem Z1h : ZU Tryz.prog 177 := fun _ _ => by kernel_rfl
theorem k_en178 : ZU Tryz.prog 178 := fun _ _ => by kernel_rfl
theorem k_en179 : ZU Tryz.prog 179 := fun _ _ => by kernel_rfl
theorem k_en181 : ZU Tryz.prog 181 := fun _ _ => by kernel_rfl
theorem Zpl : ZU Tryz.prog 182 := fun _ _ => by kernel_rfl
theorem k_en183 : ZU Tryz.prog 183 := fun _ _ => by kernel_rfl
theorem k_en184 : ZU Tryz.prog 184 := fun _ _ => by kernel_rfl
theorem k_en185 : ZU Tryz.prog 185 := fun _ _ => by kernel_rfl
theorem Zjf : ZU Tryz.prog 19 := fun _ _ => by kernel_rfl
theorem ZPj : ZU Tryz.prog 190 := fun _ _ => by kernel_rfl
theorem k_en196 : ZU Tryz.prog 196 := fun _ _ => by kernel_rfl
theorem k_en197 : ZU Tryz.prog 197 := fun _ _ => by kernel_rfl
theorem k_en198 : ZU Tryz.prog 198 := fun _ _ => by kernel_rfl
theorem ZWc : ZU Tryz.prog 20 := fun _ _ => by kernel_rfl
theorem k_en21 : ZU Tryz.prog 21 := fun _ _ => by kernel_rfl
theorem k_en26 : ZU Tryz.prog 26 := fun _ _ => by kernel_rfl
theorem Zff : ZU Tryz.prog 28 := fun _ _ => by kernel_rfl
theorem ZTd : ZU Tryz.prog 29 := fun _ _ => by kernel_rfl
theorem Z4d : ZU Tryz.prog 30 := fun _ _ => by kernel_rfl
theorem Zve : ZU Tryz.prog 31 := fun _ _ => by kernel_rfl
theorem Z1g : ZU Tryz.prog 32 := fun _ _ => by kernel_rfl
theorem ZAf : ZU Tryz.prog 35 := fun _ _ => by kernel_rfl
theorem Z8j : ZU Tryz.prog 46 := fun _ _ => by kernel_rfl
theorem Z6j : ZU Tryz.prog 47 := fun _ _ => by kernel_rfl
theorem k_en51 : ZU Tryz.prog 51 := fun _ _ => by kernel_rfl
theorem k_en52 : ZU Tryz.prog 52 := fun _ _ => by kernel_rfl
theorem k_en54 : ZU Tryz.prog 54 := fun _ _ => by kernel_rfl
theorem ZNh : ZU Tryz.prog 61 := fun _ _ => by kernel_rfl
theorem Zti : ZU Tryz.prog 62 := fun _ _ => by kernel_rfl
theorem Zaj : ZU Tryz.prog 64 := fun _ _ => by kernel_rfl
theorem ZDf : ZU Tryz.prog 80 := fun _ _ => by kernel_rfl
theorem k_en81 : ZU Tryz.prog 81 := fun _ _ => by kernel_rfl
theorem Zvj : ZU Tryz.prog 82 := fun _ _ => by kernel_rfl
theorem Zoc : ZU Tryz.prog 84 := fun _ _ => by kernel_rfl
theorem Zcd : ZU Tryz.prog 85 := fun _ _ => by kernel_rfl
theorem Z0e : ZU Tryz.prog 86 := fun _ _ => by kernel_rfl
theorem Z9e : ZU Tryz.prog 87 := fun _ _ => by kernel_rfl
theorem ZZg : ZU Tryz.prog 88 := fun _ _ => by kernel_rfl
theorem k_en89 : ZU Tryz.prog 89 := fun _ _ => by kernel_rfl
theorem k_en90 : ZU Tryz.prog 90 := fun _ _ => by kernel_rfl
theorem k_en98 : ZU Tryz.prog 98 := fun _ _ => by kernel_rfl
theorem ZZf : ZU Tryz.prog 99 := fun _ _ => by kernel_rfl
theorem Z3h : EqB Tryz.prog 4 := fun _ _ _ => by kernel_rfl
theorem ZLf : ZNe Tryz.prog 148 add64Entry := ⟨_, Tryz.func148, by kernel_rfl, by kernel_rfl, by kernel_rfl, by kernel_rfl⟩
theorem Zzl : ZNe Tryz.prog 180 Z0i := ⟨_, Tryz.func180, by kernel_rfl, by kernel_rfl, by kernel_rfl, by kernel_rfl⟩
theorem ZPk : Z0b Tryz.prog 100 0 0 := fun _ _ _ => by kernel_rfl
theorem ZCe : Z0b Tryz.prog 100 1 3 := fun _ _ _ => by kernel_rfl
theorem ZTa : Z0b Tryz.prog 32 0 0 := fun _ _ _ => by kernel_rfl
theorem ZUa : Z0b Tryz.prog 32 1 1 := fun _ _ _ => by kernel_rfl
theorem ZNa : Z0b Tryz.prog 34 0 0 := fun _ _ _ => by kernel_rfl
theorem Zeb : Z0b Tryz.prog 34 1 2 := fun _ _ _ => by kernel_rfl
theorem Zel : Z0b Tryz.prog 42 0 0 := fun _ _ _ => by kernel_rfl
theorem ZUk : Z0b Tryz.prog 42 1 1 := fun _ _ _ => by kernel_rfl
theorem ZGh : Z0b Tryz.prog 50 0 0 := fun _ _ _ => by kernel_rfl
theorem Zjh : Z0b Tryz.prog 50 1 1 := fun _ _ _ => by kernel_rfl
theorem ZRh : Z0b Tryz.prog 53 0 0 := fun _ _ _ => by kernel_rfl
theorem ZRg : Z0b Tryz.prog 53 1 3 := fun _ _ _ => by kernel_rfl
theorem ZUm : Z0b Tryz.prog 53 2 6 := fun _ _ _ => by kernel_rfl
theorem ZLe : Z0b Tryz.prog 92 0 0 := fun _ _ _ => by kernel_rfl
theorem Zjc : Z0b Tryz.prog 92 1 1 := fun _ _ _ => by kernel_rfl
theorem Zra : Tryz.prog.follows .mixedOrders = true := by kernel_rfl
theorem Zqf : NeB Tryz.prog 4 := fun _ _ _ => by kernel_rfl
theorem Z9a : Z4b Tryz.prog 22 28 1 := ⟨fun _ => by kernel_rfl, fun _ => by kernel_rfl⟩
theorem Zsi : Z4b Tryz.prog 263 9 1 := ⟨fun _ => by kernel_rfl, fun _ => by kernel_rfl⟩
theorem ZPb : Z4b Tryz.prog 28 3 1 := ⟨fun _ => by kernel_rfl, fun _ => by kernel_rfl⟩
theorem ZP : Z4b Tryz.prog 30 211 1 := ⟨fun _ => by kernel_rfl, fun _ => by kernel_rfl⟩
theorem Zba : Z4b Tryz.prog 40 212 1 := ⟨fun _ => by kernel_rfl, fun _ => by kernel_rfl⟩
theorem Z0a : Z4b Tryz.prog 76 92 4 := ⟨fun _ => by kernel_rfl, fun _ => by kernel_rfl⟩
theorem ZGb : Z4b Tryz.prog 80 34 3 := ⟨fun _ => by kernel_rfl, fun _ => by kernel_rfl⟩
theorem Z5d : Z4b Tryz.prog 89 4 1 := ⟨fun _ => by kernel_rfl, fun _ => by kernel_rfl⟩
theorem ZMk : Z4b Tryz.prog 96 50 2 := ⟨fun _ => by kernel_rfl, fun _ => by kernel_rfl⟩
theorem Zwe : Sized Tryz.prog 100 4 true := ⟨fun _ => by kernel_rfl, fun _ => by kernel_rfl⟩
theorem Zqi : Sized Tryz.prog 102 4 true := ⟨fun _ => by kernel_rfl, fun _ => by kernel_rfl⟩
theorem Z6d : Sized Tryz.prog 2 1 false := ⟨fun _ => by kernel_rfl, fun _ => by kernel_rfl⟩
theorem Zpa : Sized Tryz.prog 211 1 false := ⟨fun _ => by kernel_rfl, fun _ => by kernel_rfl⟩
theorem Zgb : Sized Tryz.prog 212 1 false := ⟨fun _ => by kernel_rfl, fun _ => by kernel_rfl⟩
theorem ZRd : Sized Tryz.prog 22 1 false := ⟨fun _ => by kernel_rfl, fun _ => by kernel_rfl⟩
theorem Zkh : Sized Tryz.prog 28 1 false := ⟨fun _ => by kernel_rfl, fun _ => by kernel_rfl⟩
theorem Zxc : Sized Tryz.prog 3 1 false := ⟨fun _ => by kernel_rfl, fun _ => by kernel_rfl⟩
theorem Zfa : Sized Tryz.prog 30 1 false := ⟨fun _ => by kernel_rfl, fun _ => by kernel_rfl⟩
theorem ZAa : Sized Tryz.prog 32 2 true := ⟨fun _ => by kernel_rfl, fun _ => by kernel_rfl⟩
theorem Zr : Sized Tryz.prog 34 3 true := ⟨fun _ => by kernel_rfl, fun _ => by kernel_rfl⟩
theorem Zwa : Sized Tryz.prog 4 1 false := ⟨fun _ => by kernel_rfl, fun _ => by kernel_rfl⟩
theorem ZKk : Sized Tryz.prog 40 1 false := ⟨fun _ => by kernel_rfl, fun _ => by kernel_rfl⟩
theorem Zyb : Sized Tryz.prog 42 3 true := ⟨fun _ => by kernel_rfl, fun _ => by kernel_rfl⟩
theorem k_sz5 : Sized Tryz.prog 5 1 false := ⟨fun _ => by kernel_rfl, fun _ => by kernel_rfl⟩
theorem ZYa : Sized Tryz.prog 50 2 true := ⟨fun _ => by kernel_rfl, fun _ => by kernel_rfl⟩
theorem Zmc : Sized Tryz.prog 53 9 true := ⟨fun _ => by kernel_rfl, fun _ => by kernel_rfl⟩
theorem Z2i : Sized Tryz.prog 55 9 true := ⟨fun _ => by kernel_rfl, fun _ => by kernel_rfl⟩
theorem Zle : Sized Tryz.prog 80 1 false := ⟨fun _ => by kernel_rfl, fun _ => by kernel_rfl⟩
theorem k_sz9 : Sized Tryz.prog 9 1 false := ⟨fun _ => by kernel_rfl, fun _ => by kernel_rfl⟩
theorem ZSf : Sized Tryz.prog 92 4 true := ⟨fun _ => by kernel_rfl, fun _ => by kernel_rfl⟩
theorem ZCk : ∀ w, (zeroValue 100).run Tryz.prog w = .ok (Value.agg #[Value.bool false, Value.slice none 0 0, Value.slice none 0 0, Value.slice none 0 0]) w := fun _ => by kernel_rfl
theorem Zjl : ∀ w, (zeroValue 102).run Tryz.prog w = .ok (Value.agg #[Value.bool false, Value.slice none 0 0, Value.slice none 0 0, Value.slice none 0 0]) w := fun _ => by kernel_rfl
theorem k_zv270 : ∀ w, (zeroValue 270).run Tryz.prog w = .ok (Value.agg #[Value.pointer none, Value.slice none 0 0]) w := fun _ => by kernel_rfl
theorem k_zv291 : ∀ w, (zeroValue 291).run Tryz.prog w = .ok (Value.agg #[Value.int IntKind.u8 0, Value.int IntKind.u8 0, Value.int IntKind.u8 0, Value.int IntKind.u8 0, Value.int IntKind.u8 0, Value.int IntKind.u8 0, Value.int IntKind.u8 0, Value.int IntKind.u8 0, Value.int IntKind.u8 0, Value.int IntKind.u8 0, Value.int IntKind.u8 0, Value.int IntKind.u8 0, Value.int IntKind.u8 0, Value.int IntKind.u8 0, Value.int IntKind.u8 0, Value.int IntKind.u8 0, Value.int IntKind.u8 0, Value.int IntKind.u8 0, Value.int IntKind.u8 0, Value.int IntKind.u8 0]) w := fun _ => by kernel_rfl
theorem ZJc : ∀ w, (zeroValue 32).run Tryz.prog w = .ok (Value.agg #[Value.bool false, Value.slice none 0 0]) w := fun _ => by kernel_rfl
theorem Zla : ∀ w, (zeroValue 34).run Tryz.prog w = .ok (Value.agg #[Value.bool false, Value.slice none 0 0, Value.slice none 0 0]) w := fun _ => by kernel_rfl
theorem Zme : ∀ w, (zeroValue 42).run Tryz.prog w = .ok (Value.agg #[Value.bool false, Value.slice none 0 0, Value.slice none 0 0]) w := fun _ => by kernel_rfl
theorem k_zv50 : ∀ w, (zeroValue 50).run Tryz.prog w = .ok (Value.agg #[Value.int IntKind.i64 0, Value.int IntKind.i64 0]) w := fun _ => by kernel_rfl
theorem Zqj : ∀ w, (zeroValue 53).run Tryz.prog w = .ok (Value.agg #[Value.bool false, Value.slice none 0 0, Value.slice none 0 0, Value.bool false, Value.slice none 0 0, Value.slice none 0 0, Value.bool false, Value.slice none 0 0, Value.slice none 0 0]) w := fun _ => by kernel_rfl
theorem ZCj : ∀ w, (zeroValue 55).run Tryz.prog w = .ok (Value.agg #[Value.bool false, Value.slice none 0 0, Value.slice none 0 0, Value.bool false, Value.slice none 0 0, Value.slice none 0 0, Value.bool false, Value.slice none 0 0, Value.slice none 0 0]) w := fun _ => by kernel_rfl
theorem ZZj : ∀ w, (zeroValue 92).run Tryz.prog w = .ok (Value.agg #[Value.bool false, Value.bool false, Value.slice none 0 0, Value.slice none 0 0]) w := fun _ => by kernel_rfl
theorem cut_w {e : World} {d : Zd} (hv : VIn d e) {E : List Value} {a : (List Int)} (F : Rep.rel (Zu (Za .u64)) d E a) {z : (List Int)} (H : ZWg a = some z) : Ret Tryz.prog 149 #[(Zu (Za .u64)).val E] e d (fun y v' => ∃ G, y = (Zu (Za .u64)).val G ∧ (Zu (Za .u64)).rel v' G z) := by
  obtain ⟨M, N, O, rfl⟩ := ZEa F; refine ZV (K := 21) (args := [.slice M (N) O]) hv Tryz.func149 rfl rfl zl fun f S => ?_; unfold ZWg at H; refine sr ?_; have S := S.nilLoc 211 1; refine ov S rfl (Zja S (y := .slice (mkA none) 0 0) rfl) fun f S => oe (Zg fun _ P => ?_); obtain ⟨Q, R, T⟩ := Zb H; refine ZS (fun f w => ∃ (B : (List Int)) (j : Option Addr) (k : Nat) (l : Nat) (m : Zd), B = Q ∧ Zd.le d m ∧ St 21 e d [(0, .slice j (k) l)] [] m f w ∧ Rep.rel (Zu (Za .u64)) m [.slice j (k) l] B) (fun _ U => ?_) ?_
  · have H := R; refine wp_block ?_; obtain ⟨am, V, W⟩ := Zb H; have S := S.reorder (ℓ' := []) [] rfl (by decide); refine Zma V (fun X f w => ∃ (n : (List Int)) (o : Option Addr) (q : Nat) (s : Nat) (g : Zd), n = X ∧ Zd.le d g ∧ St 21 e d [(0, .slice o (q) s)] [] g f w ∧ Rep.rel (Zu (Za .u64)) g [.slice o (q) s] n) ⟨_, _, _, _, _, rfl, (leR _), (S.fr' rfl), F⟩ ?_; rintro _ f w st ⟨n, o, q, s, g, hq, I, S, c⟩ H an Y Z; subst hq; refine Zg fun _ aa => Zg fun _ ab => ?_; obtain ⟨ac, ad, ae⟩ := Zb H; refine ZS (fun f w => ∃ (u : Bool) (C : Zd), u = ac ∧ Zd.le g C ∧ St 21 e d [(0, .slice o (q) s), (14, .bool (u))] [] C f w) (fun _ J => ?_) ?_
    · have H := ad; rcases Zv (decide ((0 : Int) < (n.length : Int))) with h | h
      · have H := Zw H h; obtain ⟨ao, af, H⟩ := Zb H; obtain ⟨ap, D, H⟩ := Zb H; refine Zm (mv S rfl fun f S => ov S rfl (ZF S (Zt c) rfl rfl ZP) fun f S => ov S rfl (Zk S rfl rfl ZIa) fun f S => ?_); have S := S.bool (t := 5) rfl h; refine mv S rfl fun f S => opy S rfl rfl rfl rfl (Zn S rfl) fun f S => opy S rfl rfl rfl rfl (Zn S rfl) fun f S => opy S rfl rfl rfl rfl (ZF S (Zt c) rfl rfl ZP) fun f S => opy S rfl rfl rfl rfl (Zk S rfl rfl (Zna af)) fun f S => ?_; obtain ⟨_, aq, ar, au, rfl, ag, ah⟩ := Zea c (Zj D).2.1; obtain ⟨rfl, av⟩ := ah; refine opy S rfl rfl rfl rfl (ZL S rfl rfl ZP (Zj D).1 (ltI (Zt c) (Zj D).2.2.1)) fun f S => opy S rfl rfl rfl rfl (ZY S rfl Zpa (S.view ag)) fun f S => opy S rfl rfl rfl rfl (Zk S rfl rfl Z2) fun f S => ov S rfl (ZO S (b := true) rfl rfl) fun f S => Zl ?_; obtain rfl := Zi H; refine Zc (J _ _ ⟨_, _, rfl, (leR _), (S.fr' rfl)⟩)
      have H := Zx H h; refine Zm (mv S rfl fun f S => ov S rfl (ZF S (Zt c) rfl rfl ZP) fun f S => ov S rfl (Zk S rfl rfl ZIa) fun f S => ?_); have S := S.bool (t := 5) rfl h; refine mv S rfl fun f S => opn S rfl rfl rfl rfl fun f S => opn S rfl rfl rfl rfl fun f S => opn S rfl rfl rfl rfl fun f S => opn S rfl rfl rfl rfl fun f S => opn S rfl rfl rfl rfl fun f S => opn S rfl rfl rfl rfl fun f S => opn S rfl rfl rfl rfl fun f S => ov S rfl (ZO S (b := false) rfl rfl) fun f S => Zl ?_; obtain rfl := Zi H; refine Zc (J _ _ ⟨_, _, rfl, (leR _), (S.fr' rfl)⟩)
    rintro f w ⟨u, C, hq, v, S⟩; subst hq; have H := ae; refine Zc (ab _ _ ?_); rcases Zv (u) with i | i
    · have H := Zw H i; refine ZB S rfl i (wp_skip (Zc (aa _ _ (wp_block ?_)))); obtain ⟨ai, aj, H⟩ := Zb H; obtain ⟨aw, x, H⟩ := Zb H; refine Zm (mv S rfl fun f S => mv S rfl fun f S => ?_); have c := Zq v c; refine ov S rfl (ZF S (Zt c) rfl rfl ZP) fun f S => ov S rfl (Zk S rfl rfl (Zna aj)) fun f S => ?_; obtain ⟨ax, ay, ak, L⟩ := Zyg S (A := (Za .u64)) (p := (0 : Int)) (r := ai) ZP c (Z8a x).1 (Z8a x).2.1 (Z8a x).2.2.1; rw [← (Z8a x).2.2.2.1] at L; refine ov S rfl (ak rfl (.inl ⟨rfl, rfl⟩) (.inr ⟨_, _, rfl, rfl⟩)) fun f S => mw S rfl fun f S => Zl (Zia ?_); obtain rfl := Zi H; refine Y _ rfl _ _ ⟨_, _, _, _, _, rfl, (leT I v), (S.fr' rfl), L⟩
    have H := Zx H i; refine ZC S rfl i (wp_exit (ZT ?_)); obtain rfl := Zi H; have hq := Z _ rfl; subst hq; have H := W; refine ZT (Zga ?_); obtain rfl := Zi H; have c := Zq v c; refine Zc (U _ _ ⟨_, _, _, _, _, rfl, (leT (leT (leR _) I) v), (S.fr' rfl), c⟩)
  rintro f w ⟨B, j, k, l, m, hq, az, S, al⟩; subst hq; have H := T; refine Zc (P _ _ (sr (mv S rfl fun f S => mw S rfl fun f S => oe (wp_ret ?_)))); obtain rfl := Zi H; refine ZA S (ZM rfl (ZD S rfl)) ⟨[.slice j (k) l], rfl, al⟩
theorem Zdd {d : World} {b : Zd} (hv : VIn b d) {e : List Value} {a : (List Int)} (c : Rep.rel (Zu (Za .u64)) b e a) {z : Nat} (hm : Zkb a = some z) :
    Ret Tryz.prog 149 #[(Zu (Za .u64)).val e] d b (fun y v' => ∃ f, y = Zy.val f ∧ Zy.rel v' f z) :=
  by cases hm; exact cut_w hv c (cut_eq (ZSi c).1 (ZSi c).2)
theorem isOne_w {h : World} {c : Zd} (hv : VIn c h) {k : List Value} {a : (List Int)} (d : Rep.rel (Zu (Za .u64)) c k a) {z : Bool} (H : Z6g a = some z) : Ret Tryz.prog 145 #[(Zu (Za .u64)).val k] h c (fun y v' => ∃ l, y = ZR.val l ∧ ZR.rel v' l z) := by
  obtain ⟨n, o, p, rfl⟩ := ZEa d; refine ZV (K := 12) (args := [.slice n (o) p]) hv Tryz.func145 rfl rfl zl fun f S => ?_; unfold Z6g at H; refine sr (mw S rfl fun f S => oe (Zg fun _ q => ?_)); obtain ⟨r, s, u⟩ := Zb H; refine ZS (fun f w => ∃ (g : Bool) (i : Zd), g = r ∧ Zd.le c i ∧ St 12 h c [(2, .bool (g))] [] i f w) (fun _ m => ?_) ?_
  · have H := s; rcases Zv (((a.length : Int)) == ((1 : Int))) with e | e
    · have H := Zw H e; obtain ⟨A, j, H⟩ := Zb H; refine Zm (mv S rfl fun f S => ov S rfl (ZF S (Zt d) rfl rfl ZP) fun f S => ov S rfl (Zk S rfl rfl Z2) fun f S => ?_); have S := S.bool (t := 5) rfl e; refine mv S rfl fun f S => opy S rfl rfl rfl rfl (Zn S rfl) fun f S => ?_; obtain ⟨_, B, C, D, rfl, v, x⟩ := Zea d (Zj j).2.1; obtain ⟨rfl, E⟩ := x; refine opy S rfl rfl rfl rfl (ZL S rfl rfl ZP (Zj j).1 (ltI (Zt d) (Zj j).2.2.1)) fun f S => opy S rfl rfl rfl rfl (ZY S rfl Zpa (S.view v)) fun f S => opy S rfl rfl rfl rfl (Zk S rfl rfl Z2) fun f S => ov S rfl (ZO S (b := true) rfl rfl) fun f S => mw S rfl fun f S => Zl ?_; obtain rfl := Zi H; refine Zc (m _ _ ⟨_, _, rfl, (leR _), (S.fr' rfl)⟩)
    have H := Zx H e; refine Zm (mv S rfl fun f S => ov S rfl (ZF S (Zt d) rfl rfl ZP) fun f S => ov S rfl (Zk S rfl rfl Z2) fun f S => ?_); have S := S.bool (t := 5) rfl e; refine mv S rfl fun f S => opn S rfl rfl rfl rfl fun f S => opn S rfl rfl rfl rfl fun f S => opn S rfl rfl rfl rfl fun f S => opn S rfl rfl rfl rfl fun f S => ov S rfl (ZO S (b := false) rfl rfl) fun f S => mw S rfl fun f S => Zl ?_; obtain rfl := Zi H; refine Zc (m _ _ ⟨_, _, rfl, (leR _), (S.fr' rfl)⟩)
  rintro f w ⟨g, i, hq, F, S⟩; subst hq; have H := u; refine Zc (q _ _ (wp_ret ?_)); obtain rfl := Zi H; refine ZA S (ZM rfl (ZD S rfl)) ⟨[.bool (g)], rfl, ZCa⟩
theorem ZIh {c : World} {b : Zd} (hv : VIn b c) {d : List Value} {a : Nat} (f : Rep.rel Zy b d a) {z : Bool} (hm : Zke a = some z) :
    Ret Tryz.prog 145 #[Zy.val d] c b (fun y v' => ∃ e, y = ZR.val e ∧ ZR.rel v' e z) :=
  isOne_w hv f (ZSm.trans hm)
theorem mul64_w {e : World} {a : Zd} (hv : VIn a e) {g : List Value} {x : Int} (l : Rep.rel (Za .u64) a g x) {h : List Value} {y : Int} (m : Rep.rel (Za .u64) a h y) {z : Int × Int} (H : ZYf x y = some z) : Ret Tryz.prog 147 #[(Za .u64).val g, (Za .u64).val h] e a (fun y v' => ∃ i c, y = .tuple #[(Za .u64).val i, (Za .u64).val c] ∧ (Za .u64).rel v' i z.1 ∧ (Za .u64).rel v' c z.2) := by
  obtain ⟨rfl, c⟩ := l; obtain ⟨rfl, B⟩ := m; refine ZV (K := 51) (args := [.int .u64 (x), .int .u64 (y)]) hv Tryz.func147 rfl rfl zl fun f S => ?_; unfold ZYf at H; refine sr (mw S rfl fun f S => mw S rfl fun f S => oe (sr (mv S rfl fun f S => ov S rfl (Zk S rfl rfl ZSe) fun f S => mw S rfl fun f S => oe (Zg fun _ n => ?_)))); obtain ⟨b, o, H⟩ := Zb H; refine Zm (mv S rfl fun f S => ov S rfl (Zk S rfl rfl (ZAb o)) fun f S => mw S rfl fun f S => Zl (Zc (n _ _ (sr (mv S rfl fun f S => ov S rfl (Zk S rfl rfl ZSe) fun f S => mw S rfl fun f S => oe (Zg fun _ p => ?_)))))); obtain ⟨d, q, H⟩ := Zb H; refine Zm (mv S rfl fun f S => ov S rfl (Zk S rfl rfl (ZAb q)) fun f S => mw S rfl fun f S => Zl (Zc (p _ _ (sr (mv S rfl fun f S => mv S rfl fun f S => ov S rfl (Zk S rfl rfl ZXb) fun f S => mw S rfl fun f S => oe (Zg fun _ r => ?_)))))); obtain ⟨s, t, H⟩ := Zb H; refine Zm (mv S rfl fun f S => mv S rfl fun f S => ov S rfl (Zk S rfl rfl ZXb) fun f S => mv S rfl fun f S => ov S rfl (Zk S rfl rfl (ZAb t)) fun f S => ov S rfl (Zk S rfl rfl ZNb) fun f S => mw S rfl fun f S => Zl ?_); have S := S.fr' (σ' := [(0, .int .u64 (x)), (1, .int .u64 (y)), (6, .int .u64 (ZGa .u64 x ((4294967295 : Int)))), (7, .int .u64 (b)), (9, .int .u64 (d)), (11, .int .u64 (IntKind.u64.wrap ((IntKind.u64.wrap (b * (ZGa .u64 y ((4294967295 : Int))))) + s)))]) rfl
  refine Zc (r _ _ (sr (mv S rfl fun f S => ov S rfl (Zk S rfl rfl ZSe) fun f S => mw S rfl fun f S => oe (Zg fun _ u => ?_)))); obtain ⟨j, v, H⟩ := Zb H; refine Zm (mv S rfl fun f S => ov S rfl (Zk S rfl rfl (ZAb v)) fun f S => mw S rfl fun f S => Zl (Zc (u _ _ (sr (mv S rfl fun f S => mv S rfl fun f S => mv S rfl fun f S => ov S rfl (Zk S rfl rfl ZXb) fun f S => ov S rfl (Zk S rfl rfl ZNb) fun f S => mw S rfl fun f S => oe ?_))))); refine Zg fun _ w => ?_; obtain ⟨k, A, H⟩ := Zb H; refine Zm (mv S rfl fun f S => mv S rfl fun f S => ov S rfl (Zk S rfl rfl ZXb) fun f S => mv S rfl fun f S => ov S rfl (Zk S rfl rfl ZNb) fun f S => mv S rfl fun f S => ov S rfl (Zk S rfl rfl (ZAb A)) fun f S => ov S rfl (Zk S rfl rfl ZNb) fun f S => mw S rfl fun f S => Zl (Zc (w _ _ (sr (mv S rfl fun f S => ?_))))); refine mv S rfl fun f S => ov S rfl (Zk S rfl rfl ZXb) fun f S => mw S rfl fun f S => ?_; have S := S.fr' (σ' := [(4, .int .u64 (IntKind.u64.wrap ((IntKind.u64.wrap ((IntKind.u64.wrap (b * d)) + j)) + k))), (5, .int .u64 (IntKind.u64.wrap (x * y)))]) rfl; refine oe (wp_ret ?_); obtain rfl := Zi H; refine ZA S (Zya rfl (ZD S rfl) (ZD S rfl)) ⟨[.int .u64 (IntKind.u64.wrap ((IntKind.u64.wrap ((IntKind.u64.wrap (b * d)) + j)) + k))], [.int .u64 (IntKind.u64.wrap (x * y))], rfl, (Zp (Zua _ _)), (Zp (Zua _ _))⟩
theorem Zfi {b : World} {a : Zd} (hv : VIn a b) {c : List Value} {x : Int} (g : Rep.rel (Za .u64) a c x) {d : List Value} {y : Int} (h : Rep.rel (Za .u64) a d y) {z : Int × Int} (hm : ZYc x y = some z) :
    Ret Tryz.prog 147 #[(Za .u64).val c, (Za .u64).val d] b a (fun y v' => ∃ e f, y = Value.tuple #[(Za .u64).val e, (Za .u64).val f] ∧ (Za .u64).rel v' e z.1 ∧ (Za .u64).rel v' f z.2) :=
  mul64_w hv g h (Zho hm)
theorem times_w {G : World} {q : Zd} (hv : VIn q G) {c0 : List Value} {a : Nat} (e : Rep.rel Zy q c0 a) {c1 : List Value} {b : Nat} (d : Rep.rel Zy q c1 b) {z : Nat} (H : Zgg a b = some z) : Ret Tryz.prog 102 #[Zy.val c0, Zy.val c1] G q (fun y v' => ∃ r0, y = Zy.val r0 ∧ Zy.rel v' r0 z) := by
  obtain ⟨q1, r, s, rfl⟩ := ZZ e; obtain ⟨C, h, k, rfl⟩ := ZZ d; refine ZV (K := 86) (args := [.slice q1 r s, .slice C h k]) hv Tryz.func102 rfl rfl zl fun f S => ?_; unfold Zgg at H; refine sr (mw S rfl fun f S => oe (Zg fun _ aZ => Zg fun _ a0 => ?_)); obtain ⟨a1, a2, H⟩ := Zb H; refine Zm (mv S rfl fun f S => opc S rfl (Zo S [.slice q1 r s] Zdh rfl rfl) (ZIh S.vin e a2) ?_); rintro _ ch f w ai ⟨ci, rfl, a3⟩ S; obtain rfl := a3; refine Zl (Zc (a0 _ _ ?_)); rcases Zv (a1) with X | X
  · have H := Zw H X; refine ZB S rfl X (sr (mv S rfl fun f S => mw S rfl fun f S => oe (wp_ret (ZQ ?_)))); obtain rfl := Zi H; have d := Zq ai d; refine ZA S (ZM rfl (ZD S rfl)) ⟨[.slice C h k], rfl, d⟩
  have H := Zx H X; refine ZC S rfl X (wp_skip (Zc (aZ _ _ (Zg fun _ a4 => Zg fun _ a5 => ?_)))); obtain ⟨a6, a7, H⟩ := Zb H; refine Zm (mv S rfl fun f S => ?_); have d := Zq ai d; refine opc S rfl (Zo S [.slice C h k] Zdh rfl rfl) (ZIh S.vin d a7) ?_; rintro _ ay f w az ⟨cj, rfl, a8⟩ S; obtain rfl := a8; refine Zl (Zc (a5 _ _ ?_)); rcases Zv (a6) with Y | Y
  · have H := Zw H Y; refine ZB S rfl Y (sr (mv S rfl fun f S => mw S rfl fun f S => oe (wp_ret (ZQ ?_)))); obtain rfl := Zi H; have e := Zq (leT ai az) e; refine ZA S (ZM rfl (ZD S rfl)) ⟨[.slice q1 r s], rfl, e⟩
  have H := Zx H Y; refine ZC S rfl Y (wp_skip (Zc (a4 _ _ (Zg fun _ a9 => ?_)))); obtain ⟨I, ba, H⟩ := Zb H; obtain ⟨ck, aj, H⟩ := Zb H; refine Zm (mv S rfl fun f S => ?_); have e := Zq (leT ai az) e; refine ov S rfl (ZF S (Zt e) rfl rfl ZP) fun f S => mv S rfl fun f S => ?_; have d := Zq az d; refine ov S rfl (ZF S (Zt d) rfl rfl ZP) fun f S => ov S rfl (Zk S rfl rfl (Z5 ba)) fun f S => ?_; obtain ⟨aI, aJ⟩ : ∃ c : List Value, c = (List.replicate (I).toNat [.int .u64 ((0 : Int))]).flatten := ⟨_, rfl⟩; obtain ⟨bb, w, bc, S⟩ := ZQb Zlc S (l := I) (c := I) (Z6 aj).1 (Z6 aj).2.1 (Z6 aj).2.2.1 (Z6 aj).2.2.2 aJ; have bd : Rep.rels (Za .u64) ay aI (List.replicate (I).toNat ((0 : Int))) := by rw [aJ]; exact ZHb (show Rep.rel (Za .u64) _ [.int .u64 ((0 : Int))] _ from (Zp (by decide))) _
  refine Zka wn rfl zl (bc rfl rfl) S fun f S => mw S rfl fun f S => Zl (Zc (a9 _ _ (Zg fun _ be => sr (mv S rfl fun f S => ov S rfl (ZF S (Zt e) rfl rfl ZP) fun f S => mv S rfl fun f S => oe ?_)))); obtain ⟨bf, bg, bh⟩ := Zb H; refine ZS (fun f w => ∃ (J : (List Int)) (Z : Option Nat) (L : Nat) (aa : Nat) (aA : List Value) (ak : Zd), J = bf ∧ Zd.le ay ak ∧ St 86 G q [(5, .slice (mkA Z) (L) aa)] [Loc.own Z 211 1 (L) aa aA] ak f w ∧ Rep.rels (Za .u64) ak aA J ∧ L = J.length) (fun _ bi => ?_) ?_
  · have H := bg; refine wp_block ?_; obtain ⟨cl, bj, bk⟩ := Zb H; refine Zma bj (fun bm f w => ∃ (al : (List Int)) (g : Int) (ab : Option Nat) (M : Nat) (ac : Nat) (ad : List Value) (N : Zd), (al, g) = bm ∧ Zd.le ay N ∧ St 86 G q [(1, .slice C h k), (5, .slice (mkA ab) (M) ac), (26, .slice q1 r s), (27, .int .i64 ((((Zh 18446744073709551616 a)).length : Int))), (28, .int .i64 (g))] [Loc.own ab 211 1 (M) ac ad] N f w ∧ Rep.rels (Za .u64) N ad al ∧ M = al.length ∧ inR .i64 g) ⟨_, _, some bb, (I).toNat, (I).toNat, aI, _, rfl, (leR _), (S.fr' rfl), bd, (Zsb (x := (0 : Int))), (by decide)⟩ ?_; rintro _ f w st ⟨al, g, ab, M, ac, ad, N, hq, am, S, aK, aL, cm⟩ H cn bn bo; subst hq; refine sr (ov S rfl (Zk S rfl rfl Zaa) fun f S => oe (Zg fun _ bp => ?_)); rcases Zv (decide (g < (((Zh 18446744073709551616 a)).length : Int))) with ae | ae
    · have H := Zw H ae; refine ZB S rfl ae (wp_skip (Zc (bp _ _ (Zg fun _ bq => wp_block (Zg fun _ br => ?_))))); obtain ⟨O, aB, H⟩ := Zb H; refine Zm (mv S rfl fun f S => ?_); have e := Zq am e; obtain ⟨_, an, ao, co, rfl, bs, bt⟩ := Zea e (Zj aB).2.1; obtain ⟨rfl, bu⟩ := bt; refine ov S rfl (ZL S rfl rfl ZP (Zj aB).1 (ltI (Zt e) (Zj aB).2.2.1)) fun f S => ov S rfl (ZY S rfl Zpa (S.view bs)) fun f S => mw S rfl fun f S => mw S rfl fun f S => Zl (Zc (br _ _ (sr (mw S rfl fun f S => oe (Zg fun _ bv => sr (mv S rfl fun f S => ?_)))))); have d := Zq am d; refine ov S rfl (ZF S (Zt d) rfl rfl ZP) fun f S => mv S rfl fun f S => oe ?_; obtain ⟨bw, bx, bz⟩ := Zb H; refine ZS (fun f w => ∃ (P : (List Int)) (m : Int) (aC : Option Nat) (Q : Nat) (ap : Nat) (t : List Value) (R : Zd), (P, m) = bw ∧ Zd.le N R ∧ St 86 G q [(1, .slice C h k), (5, .slice (mkA aC) (Q) ap), (6, .int .i64 (g)), (8, .int .u64 (m)), (26, .slice (some ⟨an, ao, none⟩) r s), (27, .int .i64 ((((Zh 18446744073709551616 a)).length : Int))), (28, .int .i64 (g))] [Loc.own aC 211 1 (Q) ap t] R f w ∧ Rep.rels (Za .u64) R t P ∧ Q = P.length ∧ inR .u64 m) (fun _ bA => ?_) ?_
      · have H := bx; refine wp_block ?_; obtain ⟨cp, bB, bC⟩ := Zb H; refine Zma bB (fun bD f w => ∃ (T : (List Int)) (U : Int) (D : Int) (aq : Option Nat) (p : Nat) (E : Nat) (o : List Value) (ar : Zd), (T, U, D) = bD ∧ Zd.le N ar ∧ St 86 G q [(1, .slice C h k), (5, .slice (mkA aq) (p) E), (6, .int .i64 (g)), (7, .int .u64 (O)), (8, .int .u64 (U)), (26, .slice (some ⟨an, ao, none⟩) r s), (27, .int .i64 ((((Zh 18446744073709551616 a)).length : Int))), (28, .int .i64 (g)), (33, .slice C h k), (34, .int .i64 ((((Zh 18446744073709551616 b)).length : Int))), (35, .int .i64 (D))] [Loc.own aq 211 1 (p) E o] ar f w ∧ Rep.rels (Za .u64) ar o T ∧ p = T.length ∧ inR .u64 U ∧ inR .i64 D) ⟨_, _, _, ab, M, ac, ad, _, rfl, (leR _), (S.fr' rfl), aK, aL, (by decide), (by decide)⟩ ?_; rintro _ f w st ⟨T, U, D, aq, p, E, o, ar, hq, aD, S, V, F, bE, cq⟩ H cr bF bG; subst hq; refine sr (ov S rfl (Zk S rfl rfl Zaa) fun f S => oe (Zg fun _ bH => ?_)); rcases Zv (decide (D < (((Zh 18446744073709551616 b)).length : Int))) with af | af
        · have H := Zw H af; refine ZB S rfl af (wp_skip (Zc (bH _ _ (Zg fun _ bI => wp_block (Zg fun _ bJ => ?_))))); obtain ⟨aE, aF, H⟩ := Zb H; refine Zm (mv S rfl fun f S => ?_); have d := Zq aD d; obtain ⟨_, au, av, ct, rfl, bK, bL⟩ := Zea d (Zj aF).2.1; obtain ⟨rfl, bM⟩ := bL; refine ov S rfl (ZL S rfl rfl ZP (Zj aF).1 (ltI (Zt d) (Zj aF).2.2.1)) fun f S => ov S rfl (ZY S rfl Zpa (S.view bK)) fun f S => mw S rfl fun f S => mw S rfl fun f S => Zl (Zc (bJ _ _ (Zg fun _ bN => ?_))); obtain ⟨aG, bO, H⟩ := Zb H; refine Zm (mv S rfl fun f S => mv S rfl fun f S => opc S rfl (Zo S [.int .u64 (O), .int .u64 (aE)] Zej rfl rfl) (Zfi S.vin (show Rep.rel (Za .u64) _ [.int .u64 (O)] O from (Zp bu)) (show Rep.rel (Za .u64) _ [.int .u64 (aE)] aE from (Zp bM)) bO) ?_); rintro _ aM f w aN ⟨cu, cv, rfl, bP, bQ⟩ S; have V := ZH aN V; obtain ⟨rfl, cw⟩ := bP; obtain ⟨rfl, cx⟩ := bQ; refine mv S rfl fun f S => ov S rfl (ZN S rfl rfl) fun f S => ov S rfl (ZN S rfl rfl) fun f S => mw S rfl fun f S => mw S rfl fun f S => Zl (Zc (bN _ _ (Zg fun _ bR => ?_))); obtain ⟨bS, bT, H⟩ := Zb H; obtain ⟨aO, ag, H⟩ := Zb H; obtain ⟨aw, bU, H⟩ := Zb H; refine Zm (mv S rfl fun f S => mv S rfl fun f S => mv S rfl fun f S => mv S rfl fun f S => ov S rfl (Zk S rfl rfl (Z5 bT)) fun f S => ?_)
          obtain ⟨aH, rfl⟩ := Zub S (j := 0) rfl (ZBb F (Zj ag).2.2.2); have aP := Zta V (Zj ag).2.1; obtain ⟨cy, aQ⟩ : ∃ c, (List.take (Za .u64).n (List.drop ((bS).toNat * (Za .u64).n) o)) = c := ⟨_, rfl⟩; rw [aQ] at aP; obtain ⟨rfl, cz⟩ := aP; refine ov S rfl (ZL S rfl rfl ZP (Zj ag).1 (ltI F (Zj ag).2.2.1)) fun f S => ov S rfl (ZY S rfl Zpa (Z6b S (j := 0) rfl aQ (ltN F (Zj ag).2.2.2) 0 [.int .u64 (aO)] rfl zl)) fun f S => ov S rfl (Zee S [.int .u64 (aG.2), .int .u64 (aO), .int .u64 ((0 : Int))] (ZOf ZLf bU) rfl rfl) fun f S => mv S rfl fun f S => ov S rfl (ZN S rfl rfl) fun f S => ov S rfl (ZN S rfl rfl) fun f S => mw S rfl fun f S => mw S rfl fun f S => Zl ?_; have S := S.fr' (σ' := [(1, .slice (some ⟨au, av, none⟩) h k), (5, .slice (mkA (some aH)) (p) E), (6, .int .i64 (g)), (7, .int .u64 (O)), (8, .int .u64 (U)), (9, .int .i64 (D)), (11, .int .u64 (aG.1)), (12, .int .u64 (aw.1)), (13, .int .u64 (aw.2)), (26, .slice (some ⟨an, ao, none⟩) r s), (27, .int .i64 ((((Zh 18446744073709551616 a)).length : Int))), (28, .int .i64 (g)), (33, .slice (some ⟨au, av, none⟩) h k), (34, .int .i64 ((((Zh 18446744073709551616 b)).length : Int))), (35, .int .i64 (D))]) rfl; refine Zc (bR _ _ (sr (mv S rfl fun f S => mv S rfl fun f S => ov S rfl (Zk S rfl rfl ZNb) fun f S => mw S rfl fun f S => oe (Zg fun _ bV => ?_))))
          obtain ⟨u, aR, H⟩ := Zb H; refine Zm (mv S rfl fun f S => mv S rfl fun f S => ov S rfl (Zee S [.int .u64 (aw.1), .int .u64 (U), .int .u64 ((0 : Int))] (ZOf ZLf aR) rfl rfl) fun f S => mv S rfl fun f S => ov S rfl (ZN S rfl rfl) fun f S => ov S rfl (ZN S rfl rfl) fun f S => mw S rfl fun f S => mw S rfl fun f S => Zl (Zc (bV _ _ ?_))); obtain ⟨v, bW, H⟩ := Zb H; obtain ⟨cA, ah, H⟩ := Zb H; refine Zm (mv S rfl fun f S => mv S rfl fun f S => mv S rfl fun f S => ov S rfl (Zk S rfl rfl (Z5 bW)) fun f S => mv S rfl fun f S => mv S rfl fun f S => mv S rfl fun f S => ov S rfl (Zk S rfl rfl ZNb) fun f S => ?_); have aS := Zta V (Zj ah).2.1; obtain ⟨cB, bX⟩ : ∃ c, (List.take (Za .u64).n (List.drop ((v).toNat * (Za .u64).n) o)) = c := ⟨_, rfl⟩; rw [bX] at aS; obtain ⟨rfl, cC⟩ := aS; refine ov S rfl (ZL S rfl rfl ZP (Zj ah).1 (ltI F (Zj ah).2.2.1)) fun f S => ?_; obtain ⟨w, bY, S⟩ := Ztb S Zpa (off := 0 + (v).toNat * 1) (z := .int .u64 (u.1)) (cs := [.int .u64 (u.1)]) (Zdb rfl) rfl (i := 0) rfl (Zxb S (j := 0) rfl (ltN F (Zj ah).2.2.2)) (by first | rfl | simp [ZFa]); have bZ : Rep.rels (Za .u64) aM (List.take (0 + (v).toNat * 1) o ++ [Value.int IntKind.u64 (u.1)] ++ List.drop (0 + (v).toNat * 1 + 1) o) (T.set (v).toNat u.1) := Zjb V (Zj ah).2.2.2 (show Rep.rel (Za .u64) aM [.int .u64 (u.1)] _ from (Zp (Zqh aR))) rfl rfl
          have b0 : p = (T.set (v).toNat u.1).length := Zlb F; refine ZX wn rfl (bY rfl rfl) (mw S rfl fun f S => Zl (Zia (Zc (bI _ _ ?_)))); obtain ⟨b1, aT, H⟩ := Zb H; refine Zm (ov S rfl (Zk S rfl rfl (Z5 aT)) fun f S => mv S rfl fun f S => Zl ?_); have S := S.fr' (σ' := [(1, .slice (some ⟨au, av, none⟩) h k), (5, .slice (mkA (some aH)) (p) E), (6, .int .i64 (g)), (7, .int .u64 (O)), (8, .int .u64 (IntKind.u64.wrap ((IntKind.u64.wrap (aG.1 + aw.2)) + u.2))), (26, .slice (some ⟨an, ao, none⟩) r s), (27, .int .i64 ((((Zh 18446744073709551616 a)).length : Int))), (28, .int .i64 (g)), (33, .slice (some ⟨au, av, none⟩) h k), (34, .int .i64 ((((Zh 18446744073709551616 b)).length : Int))), (35, .int .i64 (b1))]) rfl; obtain rfl := Zi H; refine bF _ rfl _ _ ⟨_, _, _, some aH, p, E, (List.take (0 + (v).toNat * 1) o ++ [Value.int IntKind.u64 (u.1)] ++ List.drop (0 + (v).toNat * 1 + 1) o), _, rfl, (leT aD aN), (S.fr' rfl), bZ, b0, (Zua _ _), (Z1 aT).2⟩
        have H := Zx H af; refine ZC S rfl af (wp_exit (ZT ?_)); obtain rfl := Zi H; have hq := bG _ rfl; subst hq; have H := bC; refine ZT (Zga ?_); obtain rfl := Zi H; refine Zc (bA _ _ ⟨_, _, aq, p, E, o, _, rfl, (leT (leR _) aD), (S.fr' rfl), V, F, bE⟩)
      rintro f w ⟨P, m, aC, Q, ap, t, R, hq, aU, S, aV, ax, b2⟩; subst hq; have H := bz; refine Zc (bv _ _ ?_); obtain ⟨B, b3, H⟩ := Zb H; obtain ⟨cD, W, H⟩ := Zb H; refine Zm (mv S rfl fun f S => mv S rfl fun f S => mv S rfl fun f S => ?_); have d := Zq aU d; refine ov S rfl (ZF S (Zt d) rfl rfl ZP) fun f S => ov S rfl (Zk S rfl rfl (Z5 b3)) fun f S => mv S rfl fun f S => ?_; obtain ⟨b4, rfl⟩ := Zub S (j := 0) rfl (ZBb ax (Zj W).2.2.2); have aW := Zta aV (Zj W).2.1; obtain ⟨cE, b5⟩ : ∃ c, (List.take (Za .u64).n (List.drop ((B).toNat * (Za .u64).n) t)) = c := ⟨_, rfl⟩; rw [b5] at aW; obtain ⟨rfl, cF⟩ := aW; refine ov S rfl (ZL S rfl rfl ZP (Zj W).1 (ltI ax (Zj W).2.2.1)) fun f S => ?_; obtain ⟨w, b6, S⟩ := Ztb S Zpa (off := 0 + (B).toNat * 1) (z := .int .u64 (m)) (cs := [.int .u64 (m)]) (Zdb rfl) rfl (i := 0) rfl (Zxb S (j := 0) rfl (ltN ax (Zj W).2.2.2)) (by first | rfl | simp [ZFa]); have b7 : Rep.rels (Za .u64) R (List.take (0 + (B).toNat * 1) t ++ [Value.int IntKind.u64 (m)] ++ List.drop (0 + (B).toNat * 1 + 1) t) (P.set (B).toNat m) := Zjb aV (Zj W).2.2.2 (show Rep.rel (Za .u64) R [.int .u64 (m)] _ from (Zp b2)) rfl rfl; have b8 : Q = (P.set (B).toNat m).length := Zlb ax
      refine ZX wn rfl (b6 rfl rfl) (Zl (Zia (Zc (bq _ _ ?_)))); obtain ⟨cG, aX, H⟩ := Zb H; refine Zm (ov S rfl (Zk S rfl rfl (Z5 aX)) fun f S => mv S rfl fun f S => Zl ?_); obtain rfl := Zi H; refine bn _ rfl _ _ ⟨_, _, some b4, Q, ap, (List.take (0 + (B).toNat * 1) t ++ [Value.int IntKind.u64 (m)] ++ List.drop (0 + (B).toNat * 1 + 1) t), _, rfl, (leT am aU), (S.fr' rfl), b7, b8, (Z1 aX).2⟩
    have H := Zx H ae; refine ZC S rfl ae (wp_exit (ZT ?_)); obtain rfl := Zi H; have hq := bo _ rfl; subst hq; have H := bk; refine ZT (Zga ?_); obtain rfl := Zi H; refine Zc (bi _ _ ⟨_, ab, M, ac, ad, _, rfl, (leT (leR _) am), (S.fr' rfl), aK, aL⟩)
  rintro f w ⟨J, Z, L, aa, aA, ak, hq, cH, S, b9, ca⟩; subst hq; have H := bh; refine Zc (be _ _ (Zg fun _ cb => ?_)); obtain ⟨cI, cc, H⟩ := Zb H; refine Zm (mv S rfl fun f S => ?_); obtain ⟨cJ, cK, S, cd⟩ := S.pubSlice (i := 0) (A := (Za .u64)) (l := J) (ℓ' := []) rfl rfl ca b9 rfl; refine opc S rfl (Zo S [.slice (mkA Z) (L) aa] Z3c rfl rfl) (Zdd S.vin (show Rep.rel (Zu (Za .u64)) _ [.slice (mkA Z) (L) aa] J from cd) cc) ?_; rintro _ cL f w cM ⟨cN, rfl, aY⟩ S; obtain ⟨ce, cf, cg, rfl⟩ := ZZ aY; refine mw S rfl fun f S => Zl (Zc (cb _ _ (wp_ret ?_))); obtain rfl := Zi H; refine ZA S (ZM rfl (ZD S rfl)) ⟨[.slice ce cf cg], rfl, aY⟩
theorem ZBf {d : World} {c : Zd} (hv : VIn c d) {e : List Value} {a : Nat} (h : Rep.rel Zy c e a) {f : List Value} {b : Nat} (i : Rep.rel Zy c f b) {z : Nat} (hm : ZCc a b = some z) :
    Ret Tryz.prog 102 #[Zy.val e, Zy.val f] d c (fun y v' => ∃ g, y = Zy.val g ∧ Zy.rel v' g z) :=
  times_w hv h i (ZNm hm)
theorem whole_w {p : World} {g : Zd} (hv : VIn g p) {q : List Value} {s : Bool} (A : Rep.rel ZR g q s) {r : List Value} {n : Nat} (m : Rep.rel Zy g r n) {z : Int} (H : ZMg s n = some z) : Ret Tryz.prog 104 #[ZR.val q, Zy.val r] p g (fun y v' => ∃ u, y = Z0.val u ∧ Z0.rel v' u z) := by
  obtain rfl := A; obtain ⟨a, c, d, rfl⟩ := ZZ m; refine ZV (K := 13) (args := [.bool (s), .slice a c d]) hv Tryz.func104 rfl rfl zl fun f S => ?_; unfold ZMg at H; refine sr (Z7 S wn rfl zl (cs := [.bool false, .slice none 0 0]) (ZW ZJc) fun v f w S => oe (Zg fun _ B => ?_)); obtain ⟨C, D, E⟩ := Zb H; refine ZS (fun f w => ∃ (e : (Bool × Nat)) (h : Option Addr) (j : Nat) (k : Nat) (o : Zd), e = C ∧ Zd.le g o ∧ St 13 p g [(4, .pointer (some ⟨v, 0, none⟩))] [Loc.box v 32 [.bool (e.1), .slice h j k]] o f w ∧ Rep.rel Zy o [.slice h j k] e.2) (fun _ x => ?_) ?_
  · have H := D; rcases Zv (s) with l | l
    · have H := Zw H l; refine Zm (mv S rfl fun f S => ?_); have S := S.bool (t := 5) rfl l; refine mv S rfl fun f S => opy S rfl rfl rfl rfl (Zn S rfl) fun f S => opy S rfl rfl rfl rfl (ZF S (Zt m) rfl rfl ZP) fun f S => opy S rfl rfl rfl rfl (Zk S rfl rfl ZIa) fun f S => ov S rfl (ZO S (b := true) rfl rfl) fun f S => mv S rfl fun f S => ov S rfl (ZBa S [(0, .bool (decide ((0 : Int) < (((Zh 18446744073709551616 n)).length : Int)))), (1, .slice a c d)] rfl (z := .agg #[.bool (decide ((0 : Int) < (((Zh 18446744073709551616 n)).length : Int))), .slice a c d]) (by kernel_rfl)) fun f S => ?_; obtain ⟨w, F, S⟩ := sbp S [.bool (decide ((0 : Int) < (((Zh 18446744073709551616 n)).length : Int))), .slice a c d] ZAa 0 0 rfl; refine ZX wn rfl (F rfl rfl) (Zl ?_); obtain rfl := Zi H; refine Zc (x _ _ ⟨_, _, _, _, _, rfl, (leR _), (S.fr' rfl), m⟩)
    have H := Zx H l; refine Zm (mv S rfl fun f S => ?_); have S := S.bool (t := 5) rfl l; refine mv S rfl fun f S => opn S rfl rfl rfl rfl fun f S => opn S rfl rfl rfl rfl fun f S => opn S rfl rfl rfl rfl fun f S => ov S rfl (ZO S (b := false) rfl rfl) fun f S => mv S rfl fun f S => ov S rfl (ZBa S [(0, .bool (false)), (1, .slice a c d)] rfl (z := .agg #[.bool (false), .slice a c d]) (by kernel_rfl)) fun f S => ?_; obtain ⟨w, G, S⟩ := sbp S [.bool (false), .slice a c d] ZAa 0 0 rfl; refine ZX wn rfl (G rfl rfl) (Zl ?_); obtain rfl := Zi H; refine Zc (x _ _ ⟨_, _, _, _, _, rfl, (leR _), (S.fr' rfl), m⟩)
  rintro f w ⟨e, h, j, k, o, hq, M, S, I⟩; subst hq; have H := E; refine Zc (B _ _ (wp_ret ?_)); obtain ⟨N, J, H⟩ := Zb H; have L := ZJh (s := e.1) I J; obtain rfl := Zi H; refine ZA S (ZM rfl (Z5b S rfl ZAa rfl (S.box (i := 0) rfl 0 [.bool (e.1), .slice h j k] rfl))) ⟨[.bool (e.1), .slice h j k], rfl, L⟩
theorem Z2c {b : World} {a : Zd} (hv : VIn a b) {c : List Value} {s : Bool} (f : Rep.rel ZR a c s) {d : List Value} {n : Nat} (g : Rep.rel Zy a d n) {z : Int} (hm : Zcb s n = some z) :
    Ret Tryz.prog 104 #[ZR.val c, Zy.val d] b a (fun y v' => ∃ e, y = Z0.val e ∧ Z0.rel v' e z) :=
  whole_w hv f g (Zun hm)
theorem ZJm {k : World} {a : Zd} (hv : VIn a k) {l : List Value} {x : Int} (m : Rep.rel Z0 a l x) {o : List Value} {n : Nat} (p : Rep.rel Zy a o n) {z : Int} (H : ZCh x n = some z) : Ret Tryz.prog 103 #[Z0.val l, Zy.val o] k a (fun y v' => ∃ q, y = Z0.val q ∧ Z0.rel v' q z) := by
  obtain ⟨r, b, c, d, rfl⟩ := ZMa m; obtain ⟨s, t, u, rfl⟩ := ZZ p; refine ZV (K := 12) (args := [.agg #[.bool r, .slice b c d], .slice s t u]) hv Tryz.func103 rfl rfl zl fun f S => ?_; unfold ZCh at H; refine sr (ob S rfl (cs := [.bool r, .slice b c d]) rfl fun M f w S => Z7 S wn rfl zl (cs := [.bool false, .slice none 0 0]) (ZW ZJc) fun N f w S => oe (Zg fun _ B => ?_)); obtain ⟨P, C, H⟩ := Zb H; obtain ⟨Q, D, H⟩ := Zb H; refine Zqa (fl := #[true, true, true, true, true, false, false, false]) Zra (by kernel_rfl) S ?_; intro ops O F w S; refine rfa O F 0 rfl rfl S (Zz S rfl ZTa) fun f S => ?_; obtain ⟨rfl, E⟩ := Zib m; refine rfa O F 1 rfl rfl S (lo S rfl Zwa 1 rfl rfl) fun f S => rfa O F 2 rfl rfl S (Zz S rfl ZUa) fun f S => rfa O F 3 rfl rfl S (lo S rfl Zfa 1 rfl rfl) fun f S => rfa O F 4 rfl rfl S (Zn S rfl) fun f S => go1 O F 5 (nxc [3, 4, 2] [0, 1] O rfl S rfl (Zo S [.slice b c d, .slice s t u] Z6f rfl rfl) (ZBf S.vin E p C) ?_); rintro _ R f w T ⟨U, rfl, v⟩ S; obtain ⟨G, I, J, rfl⟩ := ZZ v; refine ⟨(py S rfl rfl (Zz S rfl ZTa) (py S rfl rfl (lo S rfl Zwa 1 rfl rfl) Zs)), go1 O F 6 (nxc [1, 5, 0, 3, 4, 2] [] O rfl S rfl (Zo S [.bool (decide (x < 0)), .slice G I J] ZZc rfl rfl) (Z2c S.vin (show Rep.rel ZR _ [.bool (decide (x < 0))] (decide (x < 0)) from ZCa) v D) ?_)⟩
  rintro _ V f w W ⟨X, rfl, A⟩ S; obtain ⟨e, g, h, j, rfl⟩ := ZMa A; refine ⟨Zs, go1 O F 7 ?_⟩; obtain ⟨w, L, S⟩ := sbp S [.bool e, .slice g h j] ZAa 0 0 rfl; refine nxs [0, 1, 2, 3, 4, 5, 6] [] O rfl rfl (L rfl rfl) (⟨Zs, Z9 O F (Zc (B _ _ (wp_ret ?_)))⟩); obtain rfl := Zi H; refine ZA S (ZM rfl (Z5b S rfl ZAa rfl (S.box (i := 0) rfl 0 [.bool e, .slice g h j] rfl))) ⟨[.bool e, .slice g h j], rfl, A⟩
theorem ZTf {b : World} {a : Zd} (hv : VIn a b) {c : List Value} {x : Int} (f : Rep.rel Z0 a c x) {d : List Value} {n : Nat} (g : Rep.rel Zy a d n) {z : Int} (hm : Z8d x n = some z) :
    Ret Tryz.prog 103 #[Z0.val c, Zy.val d] b a (fun y v' => ∃ e, y = Z0.val e ∧ Z0.rel v' e z) :=
  ZJm hv f g (ZNl hm)
theorem len64_w {b : World} {a : Zd} (hv : VIn a b) {q : List Value} {x : Int} (J : Rep.rel (Za .u64) a q x) {z : Int} (H : Zxf x = some z) : Ret Tryz.prog 196 #[(Za .u64).val q] b a (fun y v' => ∃ r, y = (Za .i64).val r ∧ (Za .i64).rel v' r z) := by
  obtain ⟨rfl, s⟩ := J; refine ZV (K := 25) (args := [.int .u64 (x)]) hv Tryz.func196 rfl rfl zl fun f S => ?_; unfold Zxf at H; refine sr (mw S rfl fun f S => oe (Zg fun _ L => sr (mv S rfl fun f S => ov S rfl (Zk S rfl rfl Zhb) fun f S => oe ?_))); obtain ⟨M, N, O⟩ := Zb H; refine ZS (fun f w => ∃ (c : Int) (i : Int) (j : Zd), (c, i) = M ∧ Zd.le a j ∧ St 25 b a [(0, .int .u64 (c)), (2, .int .i64 (i))] [] j f w ∧ inR .u64 c ∧ inR .i64 i) (fun _ t => ?_) ?_
  · have H := N; rcases Zv (decide ((4294967296 : Int) ≤ x)) with d | d
    · have H := Zw H d; refine ZB S rfl d (Zg fun _ P => ?_); obtain ⟨ag, u, H⟩ := Zb H; refine Zm (mv S rfl fun f S => ov S rfl (Zk S rfl rfl (ZAb u)) fun f S => mw S rfl fun f S => Zl (Zc (P _ _ (Zm (mw S rfl fun f S => Zl ?_))))); obtain rfl := Zi H; refine Zc (t _ _ ⟨_, _, _, rfl, (leR _), (S.fr' rfl), (ZCd s u), (by decide)⟩)
    have H := Zx H d; refine ZC S rfl d (wp_skip ?_); obtain rfl := Zi H; refine Zc (t _ _ ⟨_, _, _, rfl, (leR _), (S.fr' rfl), s, (by decide)⟩)
  rintro f w ⟨c, i, j, hq, ah, S, v, Q⟩; subst hq; have H := O; refine Zc (L _ _ (Zg fun _ R => sr (mv S rfl fun f S => ov S rfl (Zk S rfl rfl Zhb) fun f S => oe ?_))); obtain ⟨T, U, V⟩ := Zb H; refine ZS (fun f w => ∃ (e : Int) (k : Int) (m : Zd), (e, k) = T ∧ Zd.le j m ∧ St 25 b a [(0, .int .u64 (e)), (2, .int .i64 (k))] [] m f w ∧ inR .u64 e ∧ inR .i64 k) (fun _ A => ?_) ?_
  · have H := U; rcases Zv (decide ((65536 : Int) ≤ c)) with g | g
    · have H := Zw H g; refine ZB S rfl g (Zg fun _ W => ?_); obtain ⟨ai, B, H⟩ := Zb H; refine Zm (mv S rfl fun f S => ov S rfl (Zk S rfl rfl (ZAb B)) fun f S => mw S rfl fun f S => Zl (Zc (W _ _ ?_))); obtain ⟨aj, C, H⟩ := Zb H; refine Zm (mv S rfl fun f S => ov S rfl (Zk S rfl rfl (Z5 C)) fun f S => mw S rfl fun f S => Zl ?_); obtain rfl := Zi H; refine Zc (A _ _ ⟨_, _, _, rfl, (leR _), (S.fr' rfl), (ZCd v B), (Z1 C).2⟩)
    have H := Zx H g; refine ZC S rfl g (wp_skip ?_); obtain rfl := Zi H; refine Zc (A _ _ ⟨_, _, _, rfl, (leR _), (S.fr' rfl), v, Q⟩)
  rintro f w ⟨e, k, m, hq, ak, S, D, X⟩; subst hq; have H := V; refine Zc (R _ _ (Zg fun _ Y => sr (mv S rfl fun f S => ov S rfl (Zk S rfl rfl Zhb) fun f S => oe ?_))); obtain ⟨Z, aa, ab⟩ := Zb H; refine ZS (fun f w => ∃ (n : Int) (o : Int) (p : Zd), (n, o) = Z ∧ Zd.le m p ∧ St 25 b a [(0, .int .u64 (n)), (2, .int .i64 (o))] [] p f w ∧ inR .u64 n ∧ inR .i64 o) (fun _ E => ?_) ?_
  · have H := aa; rcases Zv (decide ((256 : Int) ≤ e)) with h | h
    · have H := Zw H h; refine ZB S rfl h (Zg fun _ ac => ?_); obtain ⟨al, F, H⟩ := Zb H; refine Zm (mv S rfl fun f S => ov S rfl (Zk S rfl rfl (ZAb F)) fun f S => mw S rfl fun f S => Zl (Zc (ac _ _ ?_))); obtain ⟨am, G, H⟩ := Zb H; refine Zm (mv S rfl fun f S => ov S rfl (Zk S rfl rfl (Z5 G)) fun f S => mw S rfl fun f S => Zl ?_); obtain rfl := Zi H; refine Zc (E _ _ ⟨_, _, _, rfl, (leR _), (S.fr' rfl), (ZCd D F), (Z1 G).2⟩)
    have H := Zx H h; refine ZC S rfl h (wp_skip ?_); obtain rfl := Zi H; refine Zc (E _ _ ⟨_, _, _, rfl, (leR _), (S.fr' rfl), D, X⟩)
  rintro f w ⟨n, o, p, hq, an, S, ao, ap⟩; subst hq; have H := ab; refine Zc (Y _ _ (Zg fun _ ad => ?_)); obtain ⟨aq, ae, H⟩ := Zb H; obtain ⟨af, I, H⟩ := Zb H; refine Zm (mv S rfl fun f S => mv S rfl fun f S => ov S rfl (Zza S rfl (ZGk _)) fun f S => ov S rfl (Zwn S (l := ([0, 1, 2, 2, 3, 3, 3, 3, 4, 4, 4, 4, 4, 4, 4, 4, 5, 5, 5, 5, 5, 5, 5, 5, 5, 5, 5, 5, 5, 5, 5, 5, 6, 6, 6, 6, 6, 6, 6, 6, 6, 6, 6, 6, 6, 6, 6, 6, 6, 6, 6, 6, 6, 6, 6, 6, 6, 6, 6, 6, 6, 6, 6, 6, 7, 7, 7, 7, 7, 7, 7, 7, 7, 7, 7, 7, 7, 7, 7, 7, 7, 7, 7, 7, 7, 7, 7, 7, 7, 7, 7, 7, 7, 7, 7, 7, 7, 7, 7, 7, 7, 7, 7, 7, 7, 7, 7, 7, 7, 7, 7, 7, 7, 7, 7, 7, 7, 7, 7, 7, 7, 7, 7, 7, 7, 7, 7, 7, 8, 8, 8, 8, 8, 8, 8, 8, 8, 8, 8, 8, 8, 8, 8, 8, 8, 8, 8, 8, 8, 8, 8, 8, 8, 8, 8, 8, 8, 8, 8, 8, 8, 8, 8, 8, 8, 8, 8, 8, 8, 8, 8, 8, 8, 8, 8, 8, 8, 8, 8, 8, 8, 8, 8, 8, 8, 8, 8, 8, 8, 8, 8, 8, 8, 8, 8, 8, 8, 8, 8, 8, 8, 8, 8, 8, 8, 8, 8, 8, 8, 8, 8, 8, 8, 8, 8, 8, 8, 8, 8, 8, 8, 8, 8, 8, 8, 8, 8, 8, 8, 8, 8, 8, 8, 8, 8, 8, 8, 8, 8, 8, 8, 8, 8, 8, 8, 8, 8, 8, 8, 8, 8, 8, 8, 8, 8, 8] : List UInt8)) (by kernel_rfl) rfl Tryz.underlying9 ae) fun f S => ov S rfl (Zza S rfl (k_cv5_3 _)) fun f S => ov S rfl (Zk S rfl rfl (Z5 I)) fun f S => mw S rfl fun f S => Zl (Zc (ad _ _ (wp_ret ?_)))); obtain rfl := Zi H; refine ZA S (ZM rfl (ZD S rfl)) ⟨[.int .i64 (af)], rfl, (Zp (Z1 I).2)⟩
theorem len64_c {b : World} {a : Zd} (hv : VIn a b) {c : List Value} {x : Int} (e : Rep.rel (Za .u64) a c x) {z : Int} (hm : Z5f x = some z) :
    Ret Tryz.prog 196 #[(Za .u64).val c] b a (fun y v' => ∃ d, y = (Za .i64).val d ∧ (Za .i64).rel v' d z) :=
  len64_w hv e (ZQl hm)
theorem lz64_w {b : World} {a : Zd} (hv : VIn a b) {c : List Value} {x : Int} (g : Rep.rel (Za .u64) a c x) {z : Int} (H : ZMh x = some z) : Ret Tryz.prog 176 #[(Za .u64).val c] b a (fun y v' => ∃ d, y = (Za .i64).val d ∧ (Za .i64).rel v' d z) := by
  obtain ⟨rfl, h⟩ := g; refine ZV (K := 6) (args := [.int .u64 (x)]) hv Tryz.func176 rfl rfl zl fun f S => ?_; unfold ZMh at H; refine sr (mw S rfl fun f S => oe (Zg fun _ i => ?_)); obtain ⟨m, j, H⟩ := Zb H; obtain ⟨k, e, H⟩ := Zb H; refine Zm (mv S rfl fun f S => opc S rfl (Zo S [.int .u64 (x)] k_en196 rfl rfl) (len64_c S.vin (show Rep.rel (Za .u64) _ [.int .u64 (x)] x from (Zp h)) j) ?_); rintro _ n f w o ⟨p, rfl, l⟩ S; obtain ⟨rfl, q⟩ := l; refine ov S rfl (Zk S rfl rfl (Zna e)) fun f S => mw S rfl fun f S => Zl (Zc (i _ _ (wp_ret ?_))); obtain rfl := Zi H; refine ZA S (ZM rfl (ZD S rfl)) ⟨[.int .i64 (k)], rfl, (Zp (Z1 e).2)⟩
theorem Zlk {b : World} {a : Zd} (hv : VIn a b) {c : List Value} {x : Int} (e : Rep.rel (Za .u64) a c x) {z : Int} (hm : Zyd x = some z) :
    Ret Tryz.prog 176 #[(Za .u64).val c] b a (fun y v' => ∃ d, y = (Za .i64).val d ∧ (Za .i64).rel v' d z) :=
  lz64_w hv e (Zhn hm)
theorem div64_w {e : World} {c : Zd} (hv : VIn c e) {X : List Value} {hi : Int} (p0 : Rep.rel (Za .u64) c X hi) {Y : List Value} {lo : Int} (p1 : Rep.rel (Za .u64) c Y lo) {Z : List Value} {y : Int} (p2 : Rep.rel (Za .u64) c Z y) {z : Int × Int} (H : Z8f hi lo y = some z) : Ret Tryz.prog 190 #[(Za .u64).val X, (Za .u64).val Y, (Za .u64).val Z] e c (fun y v' => ∃ r0 M, y = .tuple #[(Za .u64).val r0, (Za .u64).val M] ∧ (Za .u64).rel v' r0 z.1 ∧ (Za .u64).rel v' M z.2) := by
  obtain ⟨rfl, M⟩ := p0; obtain ⟨rfl, r2⟩ := p1; obtain ⟨rfl, r3⟩ := p2; refine ZV (K := 135) (args := [.int .u64 (hi), .int .u64 (lo), .int .u64 (y)]) hv Tryz.func190 rfl rfl zl fun f S => ?_; unfold Z8f at H; refine sr (mw S rfl fun f S => mw S rfl fun f S => oe (Zg fun _ an => sr (mv S rfl fun f S => ov S rfl (Zk S rfl rfl Z2) fun f S => oe ?_))); rcases Zv (y == ((0 : Int))) with q | q
  · have H := Zw H q; refine ZB S rfl q ?_
    cases H
  have H := Zx H q; refine ZC S rfl q (wp_skip (Zc (an _ _ (Zg fun _ ao => sr (mv S rfl fun f S => mv S rfl fun f S => ov S rfl (Zk S rfl rfl ZHd) fun f S => oe ?_))))); rcases Zv (decide (y ≤ hi)) with r | r
  · have H := Zw H r; refine ZB S rfl r ?_
    cases H
  have H := Zx H r; refine ZC S rfl r (wp_skip (Zc (ao _ _ (Zg fun _ ap => sr (mv S rfl fun f S => ov S rfl (Zk S rfl rfl Z2) fun f S => oe ?_))))); rcases Zv (hi == ((0 : Int))) with s | s
  · have H := Zw H s; refine ZB S rfl s (Zg fun _ aq => ?_); obtain ⟨ar, aa, H⟩ := Zb H; obtain ⟨au, N, H⟩ := Zb H; refine Zqa (fl := #[true, true, true, true, true, true, false, false]) Zra (by kernel_rfl) S ?_; intro ops O F w S; refine rfa O F 0 rfl rfl S (Zn S rfl) fun f S => rfa O F 1 rfl rfl S (Zn S rfl) fun f S => rfa O F 2 rfl rfl S (Zk S rfl rfl (ZKb aa)) fun f S => rfa O F 3 rfl rfl S (Zn S rfl) fun f S => rfa O F 4 rfl rfl S (Zn S rfl) fun f S => rfa O F 5 rfl rfl S (Zk S rfl rfl (Zzc N)) fun f S => go1 O F 6 (nva [0, 1, 2] [3, 4, 5] O rfl rfl S (Zja S rfl) fun f S => ⟨(py S rfl rfl (Zn S rfl) (py S rfl rfl (Zn S rfl) (py S rfl rfl (Zk S rfl rfl (Zzc N)) Zs))), go1 O F 7 (nva [0, 1, 2, 3, 4, 5, 6] [] O rfl rfl S (Zja S rfl) fun f S => ⟨Zs, Z9 O F (Zc (aq _ _ ?_))⟩)⟩); refine wp_ret (ZQ ?_); obtain rfl := Zi H; refine ZA S (Zya rfl (ZD S rfl) (ZD S rfl)) ⟨[.int .u64 (ar)], [.int .u64 (au)], rfl, (Zp (Z6e aa)), (Zp (ZVi r2 N))⟩
  have H := Zx H s; refine ZC S rfl s (wp_skip (Zc (ap _ _ (Zg fun _ av => ?_)))); obtain ⟨h, aw, H⟩ := Zb H; refine Zm (mv S rfl fun f S => opc S rfl (Zo S [.int .u64 (y)] ZHj rfl rfl) (Zlk S.vin (show Rep.rel (Za .u64) _ [.int .u64 (y)] y from (Zp r3)) aw) ?_); rintro _ ab f w bd ⟨be, rfl, ax⟩ S; obtain ⟨rfl, bf⟩ := ax; refine ov S rfl (Zza S rfl (Zpi _)) fun f S => mw S rfl fun f S => Zl (Zc (av _ _ (Zg fun _ ay => ?_))); obtain ⟨a, az, H⟩ := Zb H; refine Zm (mv S rfl fun f S => mv S rfl fun f S => ov S rfl (Zk S rfl rfl (Zud az)) fun f S => mw S rfl fun f S => Zl (Zc (ay _ _ (Zg fun _ aA => ?_)))); obtain ⟨g, aB, H⟩ := Zb H; refine Zm (mv S rfl fun f S => ov S rfl (Zk S rfl rfl (ZAb aB)) fun f S => mw S rfl fun f S => Zl (Zc (aA _ _ (sr (mv S rfl fun f S => ov S rfl (Zk S rfl rfl ZSe) fun f S => mw S rfl fun f S => oe (Zg fun _ aC => ?_)))))); obtain ⟨i, aD, H⟩ := Zb H; obtain ⟨j, aE, H⟩ := Zb H; refine Zm (mv S rfl fun f S => mv S rfl fun f S => ov S rfl (Zk S rfl rfl (Zud aD)) fun f S => mv S rfl fun f S => mv S rfl fun f S => ov S rfl (Zk S rfl rfl Z9c) fun f S => ov S rfl (Zk S rfl rfl (ZAb aE)) fun f S => ov S rfl (Zk S rfl rfl Zze) fun f S => mw S rfl fun f S => Zl ?_); have S := S.fr' (σ' := [(1, .int .u64 (lo)), (2, .int .u64 (a)), (8, .int .u64 (IntKind.u64.wrap h)), (9, .int .u64 (g)), (10, .int .u64 (ZGa .u64 a ((4294967295 : Int)))), (11, .int .u64 (orI .u64 i j))]) rfl
  refine Zc (aC _ _ (Zg fun _ aF => ?_)); obtain ⟨k, aG, H⟩ := Zb H; refine Zm (mv S rfl fun f S => mv S rfl fun f S => ov S rfl (Zk S rfl rfl (Zud aG)) fun f S => mw S rfl fun f S => Zl (Zc (aF _ _ (Zg fun _ aH => ?_)))); obtain ⟨l, aI, H⟩ := Zb H; refine Zm (mv S rfl fun f S => ov S rfl (Zk S rfl rfl (ZAb aI)) fun f S => mw S rfl fun f S => Zl (Zc (aH _ _ (sr (mv S rfl fun f S => ov S rfl (Zk S rfl rfl ZSe) fun f S => mw S rfl fun f S => oe (Zg fun _ aJ => ?_)))))); obtain ⟨bg, ac, H⟩ := Zb H; refine Zm (mv S rfl fun f S => mv S rfl fun f S => ov S rfl (Zk S rfl rfl (ZKb ac)) fun f S => mw S rfl fun f S => Zl (Zc (aJ _ _ (sr (mv S rfl fun f S => mv S rfl fun f S => mv S rfl fun f S => ov S rfl (Zk S rfl rfl ZXb) fun f S => ov S rfl (Zk S rfl rfl Z9c) fun f S => mw S rfl fun f S => ?_))))); refine oe (Zg fun _ aK => ?_); obtain ⟨aL, aM, aN⟩ := Zb H; refine ZS (fun f w => ∃ (d : Int) (u : Zd), d = aL ∧ Zd.le ab u ∧ St 135 e c [(2, .int .u64 (a)), (8, .int .u64 (IntKind.u64.wrap h)), (9, .int .u64 (g)), (10, .int .u64 (ZGa .u64 a ((4294967295 : Int)))), (11, .int .u64 (orI .u64 i j)), (13, .int .u64 (l)), (14, .int .u64 (ZGa .u64 k ((4294967295 : Int)))), (15, .int .u64 (d))] [] u f w ∧ inR .u64 d) (fun _ ad => ?_) ?_
  · have H := aM; refine wp_block ?_; obtain ⟨bh, aO, ae⟩ := Zb H; refine Zma aO (fun aP f w => ∃ (m : Int) (n : Int) (G : Zd), (m, n) = aP ∧ Zd.le ab G ∧ St 135 e c [(2, .int .u64 (a)), (8, .int .u64 (IntKind.u64.wrap h)), (9, .int .u64 (g)), (10, .int .u64 (ZGa .u64 a ((4294967295 : Int)))), (11, .int .u64 (orI .u64 i j)), (13, .int .u64 (l)), (14, .int .u64 (ZGa .u64 k ((4294967295 : Int)))), (15, .int .u64 (m)), (16, .int .u64 (n))] [] G f w ∧ inR .u64 m ∧ inR .u64 n) ⟨_, _, _, rfl, (leR _), (S.fr' rfl), (Z6e ac), (Zua _ _)⟩ ?_; rintro _ f w st ⟨m, n, G, hq, P, S, aQ, bi⟩ H bj aR af; subst hq; refine Zg fun _ aS => Zg fun _ aT => ?_; obtain ⟨aU, aV, aW⟩ := Zb H; refine ZS (fun f w => ∃ (I : Bool) (Q : Zd), I = aU ∧ Zd.le G Q ∧ St 135 e c [(2, .int .u64 (a)), (8, .int .u64 (IntKind.u64.wrap h)), (9, .int .u64 (g)), (10, .int .u64 (ZGa .u64 a ((4294967295 : Int)))), (11, .int .u64 (orI .u64 i j)), (13, .int .u64 (l)), (14, .int .u64 (ZGa .u64 k ((4294967295 : Int)))), (15, .int .u64 (m)), (16, .int .u64 (n)), (78, .bool (I))] [] Q f w) (fun _ ag => ?_) ?_
    · have H := aV; rcases Zv (decide ((4294967296 : Int) ≤ m)) with v | v
      · have H := Zw H v; refine Zm (mv S rfl fun f S => ov S rfl (Zk S rfl rfl Zhb) fun f S => ?_); have S := S.bool (t := 68) rfl v; refine mv S rfl fun f S => opn S rfl rfl rfl rfl fun f S => opn S rfl rfl rfl rfl fun f S => opn S rfl rfl rfl rfl fun f S => opn S rfl rfl rfl rfl fun f S => opn S rfl rfl rfl rfl fun f S => opn S rfl rfl rfl rfl fun f S => opn S rfl rfl rfl rfl fun f S => opn S rfl rfl rfl rfl fun f S => ov S rfl (ZO S (b := true) rfl rfl) fun f S => Zl ?_; obtain rfl := Zi H; refine Zc (ag _ _ ⟨_, _, rfl, (leR _), (S.fr' rfl)⟩)
      have H := Zx H v; refine Zm (mv S rfl fun f S => ov S rfl (Zk S rfl rfl Zhb) fun f S => ?_); have S := S.bool (t := 68) rfl v; refine mv S rfl fun f S => opy S rfl rfl rfl rfl (Zn S rfl) fun f S => opy S rfl rfl rfl rfl (Zn S rfl) fun f S => opy S rfl rfl rfl rfl (Zk S rfl rfl ZXb) fun f S => opy S rfl rfl rfl rfl (Zn S rfl) fun f S => opy S rfl rfl rfl rfl (Zk S rfl rfl ZXb) fun f S => opy S rfl rfl rfl rfl (Zn S rfl) fun f S => opy S rfl rfl rfl rfl (Zk S rfl rfl ZNb) fun f S => opy S rfl rfl rfl rfl (Zk S rfl rfl ZIa) fun f S => ov S rfl (ZO S (b := false) rfl rfl) fun f S => Zl ?_; obtain rfl := Zi H; refine Zc (ag _ _ ⟨_, _, rfl, (leR _), (S.fr' rfl)⟩)
    rintro f w ⟨I, Q, hq, R, S⟩; subst hq; have H := aW; refine Zc (aT _ _ ?_); rcases Zv (I) with x | x
    · have H := Zw H x; refine ZB S rfl x (wp_skip (Zc (aS _ _ (wp_block (sr (mv S rfl fun f S => ov S rfl (Zk S rfl rfl Z9c) fun f S => mw S rfl fun f S => oe (sr (mv S rfl fun f S => mv S rfl fun f S => ov S rfl (Zk S rfl rfl ZNb) fun f S => mw S rfl fun f S => ?_)))))))); refine oe (sr (mv S rfl fun f S => ov S rfl (Zk S rfl rfl Zhb) fun f S => oe ?_)); rcases Zv (decide ((4294967296 : Int) ≤ IntKind.u64.wrap (n + g))) with A | A
      · have H := Zw H A; refine ZB S rfl A (wp_exit (Zgh rfl ?_)); obtain rfl := Zi H; have hq := af _ rfl; subst hq; have H := ae; refine ZT (Zga ?_); obtain rfl := Zi H; refine Zc (ad _ _ ⟨_, _, rfl, (leT (leT (leR _) P) R), (S.fr' rfl), (Zua _ _)⟩)
      have H := Zx H A; refine ZC S rfl A (wp_skip (Zia ?_)); obtain rfl := Zi H; refine aR _ rfl _ _ ⟨_, _, _, rfl, (leT P R), (S.fr' rfl), (Zua _ _), (Zua _ _)⟩
    have H := Zx H x; refine ZC S rfl x (wp_exit (ZT ?_)); obtain rfl := Zi H; have hq := af _ rfl; subst hq; have H := ae; refine ZT (Zga ?_); obtain rfl := Zi H; refine Zc (ad _ _ ⟨_, _, rfl, (leT (leT (leR _) P) R), (S.fr' rfl), aQ⟩)
  rintro f w ⟨d, u, hq, bk, S, bm⟩; subst hq; have H := aN; refine Zc (aK _ _ (sr (mv S rfl fun f S => ov S rfl (Zk S rfl rfl ZXb) fun f S => mv S rfl fun f S => ov S rfl (Zk S rfl rfl ZNb) fun f S => mv S rfl fun f S => mv S rfl fun f S => ov S rfl (Zk S rfl rfl ZXb) fun f S => ov S rfl (Zk S rfl rfl Z9c) fun f S => mw S rfl fun f S => oe (Zg fun _ aX => ?_)))); obtain ⟨bn, ah, H⟩ := Zb H; refine Zm (mv S rfl fun f S => mv S rfl fun f S => ov S rfl (Zk S rfl rfl (ZKb ah)) fun f S => mw S rfl fun f S => Zl (Zc (aX _ _ (sr (mv S rfl fun f S => mv S rfl fun f S => mv S rfl fun f S => ov S rfl (Zk S rfl rfl ZXb) fun f S => ov S rfl (Zk S rfl rfl Z9c) fun f S => mw S rfl fun f S => ?_))))); refine oe (Zg fun _ aY => ?_); obtain ⟨aZ, a0, a1⟩ := Zb H; refine ZS (fun f w => ∃ (B : Int) (T : Zd), B = aZ ∧ Zd.le u T ∧ St 135 e c [(2, .int .u64 (a)), (8, .int .u64 (IntKind.u64.wrap h)), (14, .int .u64 (ZGa .u64 k ((4294967295 : Int)))), (15, .int .u64 (d)), (17, .int .u64 (IntKind.u64.wrap ((IntKind.u64.wrap ((IntKind.u64.wrap ((orI .u64 i j) * ((4294967296 : Int)))) + l)) - (IntKind.u64.wrap (d * a))))), (18, .int .u64 (B))] [] T f w ∧ inR .u64 B) (fun _ ai => ?_) ?_
  · have H := a0; refine wp_block ?_; obtain ⟨bo, a2, aj⟩ := Zb H; refine Zma a2 (fun a3 f w => ∃ (o : Int) (p : Int) (J : Zd), (o, p) = a3 ∧ Zd.le u J ∧ St 135 e c [(2, .int .u64 (a)), (8, .int .u64 (IntKind.u64.wrap h)), (9, .int .u64 (g)), (10, .int .u64 (ZGa .u64 a ((4294967295 : Int)))), (14, .int .u64 (ZGa .u64 k ((4294967295 : Int)))), (15, .int .u64 (d)), (16, .int .u64 (o)), (17, .int .u64 (IntKind.u64.wrap ((IntKind.u64.wrap ((IntKind.u64.wrap ((orI .u64 i j) * ((4294967296 : Int)))) + l)) - (IntKind.u64.wrap (d * a))))), (18, .int .u64 (p))] [] J f w ∧ inR .u64 o ∧ inR .u64 p) ⟨_, _, _, rfl, (leR _), (S.fr' rfl), (Zua _ _), (Z6e ah)⟩ ?_; rintro _ f w st ⟨o, p, J, hq, U, S, bp, a4⟩ H bq a5 ak; subst hq; refine Zg fun _ a6 => Zg fun _ a7 => ?_; obtain ⟨a8, a9, ba⟩ := Zb H; refine ZS (fun f w => ∃ (L : Bool) (V : Zd), L = a8 ∧ Zd.le J V ∧ St 135 e c [(2, .int .u64 (a)), (8, .int .u64 (IntKind.u64.wrap h)), (9, .int .u64 (g)), (10, .int .u64 (ZGa .u64 a ((4294967295 : Int)))), (14, .int .u64 (ZGa .u64 k ((4294967295 : Int)))), (15, .int .u64 (d)), (16, .int .u64 (o)), (17, .int .u64 (IntKind.u64.wrap ((IntKind.u64.wrap ((IntKind.u64.wrap ((orI .u64 i j) * ((4294967296 : Int)))) + l)) - (IntKind.u64.wrap (d * a))))), (18, .int .u64 (p)), (113, .bool (L))] [] V f w) (fun _ al => ?_) ?_
    · have H := a9; rcases Zv (decide ((4294967296 : Int) ≤ p)) with C | C
      · have H := Zw H C; refine Zm (mv S rfl fun f S => ov S rfl (Zk S rfl rfl Zhb) fun f S => ?_); have S := S.bool (t := 103) rfl C; refine mv S rfl fun f S => opn S rfl rfl rfl rfl fun f S => opn S rfl rfl rfl rfl fun f S => opn S rfl rfl rfl rfl fun f S => opn S rfl rfl rfl rfl fun f S => opn S rfl rfl rfl rfl fun f S => opn S rfl rfl rfl rfl fun f S => opn S rfl rfl rfl rfl fun f S => opn S rfl rfl rfl rfl fun f S => ov S rfl (ZO S (b := true) rfl rfl) fun f S => Zl ?_; obtain rfl := Zi H; refine Zc (al _ _ ⟨_, _, rfl, (leR _), (S.fr' rfl)⟩)
      have H := Zx H C; refine Zm (mv S rfl fun f S => ov S rfl (Zk S rfl rfl Zhb) fun f S => ?_); have S := S.bool (t := 103) rfl C; refine mv S rfl fun f S => opy S rfl rfl rfl rfl (Zn S rfl) fun f S => opy S rfl rfl rfl rfl (Zn S rfl) fun f S => opy S rfl rfl rfl rfl (Zk S rfl rfl ZXb) fun f S => opy S rfl rfl rfl rfl (Zn S rfl) fun f S => opy S rfl rfl rfl rfl (Zk S rfl rfl ZXb) fun f S => opy S rfl rfl rfl rfl (Zn S rfl) fun f S => opy S rfl rfl rfl rfl (Zk S rfl rfl ZNb) fun f S => opy S rfl rfl rfl rfl (Zk S rfl rfl ZIa) fun f S => ov S rfl (ZO S (b := false) rfl rfl) fun f S => Zl ?_; obtain rfl := Zi H; refine Zc (al _ _ ⟨_, _, rfl, (leR _), (S.fr' rfl)⟩)
    rintro f w ⟨L, V, hq, W, S⟩; subst hq; have H := ba; refine Zc (a7 _ _ ?_); rcases Zv (L) with D | D
    · have H := Zw H D; refine ZB S rfl D (wp_skip (Zc (a6 _ _ (wp_block (sr (mv S rfl fun f S => ov S rfl (Zk S rfl rfl Z9c) fun f S => mw S rfl fun f S => oe (sr (mv S rfl fun f S => mv S rfl fun f S => ov S rfl (Zk S rfl rfl ZNb) fun f S => mw S rfl fun f S => ?_)))))))); refine oe (sr (mv S rfl fun f S => ov S rfl (Zk S rfl rfl Zhb) fun f S => oe ?_)); rcases Zv (decide ((4294967296 : Int) ≤ IntKind.u64.wrap (o + g))) with E | E
      · have H := Zw H E; refine ZB S rfl E (wp_exit (Zgh rfl ?_)); obtain rfl := Zi H; have hq := ak _ rfl; subst hq; have H := aj; refine ZT (Zga ?_); obtain rfl := Zi H; refine Zc (ai _ _ ⟨_, _, rfl, (leT (leT (leR _) U) W), (S.fr' rfl), (Zua _ _)⟩)
      have H := Zx H E; refine ZC S rfl E (wp_skip (Zia ?_)); obtain rfl := Zi H; refine a5 _ rfl _ _ ⟨_, _, _, rfl, (leT U W), (S.fr' rfl), (Zua _ _), (Zua _ _)⟩
    have H := Zx H D; refine ZC S rfl D (wp_exit (ZT ?_)); obtain rfl := Zi H; have hq := ak _ rfl; subst hq; have H := aj; refine ZT (Zga ?_); obtain rfl := Zi H; refine Zc (ai _ _ ⟨_, _, rfl, (leT (leT (leR _) U) W), (S.fr' rfl), a4⟩)
  rintro f w ⟨B, T, hq, br, S, bs⟩; subst hq; have H := a1; refine Zc (aY _ _ (Zg fun _ bb => ?_)); obtain ⟨bc, am, H⟩ := Zb H; refine Zm (mv S rfl fun f S => ov S rfl (Zk S rfl rfl ZXb) fun f S => mv S rfl fun f S => ov S rfl (Zk S rfl rfl ZNb) fun f S => mv S rfl fun f S => ov S rfl (Zk S rfl rfl ZXb) fun f S => mv S rfl fun f S => ov S rfl (Zk S rfl rfl ZNb) fun f S => mv S rfl fun f S => mv S rfl fun f S => ov S rfl (Zk S rfl rfl ZXb) fun f S => ov S rfl (Zk S rfl rfl Z9c) fun f S => mv S rfl fun f S => ?_); refine ov S rfl (Zk S rfl rfl (ZAb am)) fun f S => mw S rfl fun f S => mw S rfl fun f S => Zl (Zc (bb _ _ (wp_ret ?_))); obtain rfl := Zi H; refine ZA S (Zya rfl (ZD S rfl) (ZD S rfl)) ⟨[.int .u64 (IntKind.u64.wrap ((IntKind.u64.wrap (d * ((4294967296 : Int)))) + B))], [.int .u64 (bc)], rfl, (Zp (Zua _ _)), (Zp (ZCd (Zua _ _) am))⟩
theorem Zfl {b : World} {a : Zd} (hv : VIn a b) {c : List Value} {hi : Int} (h : Rep.rel (Za .u64) a c hi) {d : List Value} {lo : Int} (i : Rep.rel (Za .u64) a d lo) {e : List Value} {y : Int} (j : Rep.rel (Za .u64) a e y) {z : Int × Int} (hm : Zed hi lo y = some z) :
    Ret Tryz.prog 190 #[(Za .u64).val c, (Za .u64).val d, (Za .u64).val e] b a (fun y v' => ∃ f g, y = Value.tuple #[(Za .u64).val f, (Za .u64).val g] ∧ (Za .u64).rel v' f z.1 ∧ (Za .u64).rel v' g z.2) :=
  div64_w hv h i j (Zto hm)
theorem ZOo {E : World} {d : Zd} (hv : VIn d E) {R : List Value} {a : Nat} (g : Rep.rel Zy d R a) {T : List Value} {n : Int} (p1 : Rep.rel (Za .u64) d T n) {z : Nat × Int} (H : Zsf a n = some z) : Ret Tryz.prog 167 #[Zy.val R, (Za .u64).val T] E d (fun y v' => ∃ U V, y = .tuple #[Zy.val U, (Za .u64).val V] ∧ Zy.rel v' U z.1 ∧ (Za .u64).rel v' V z.2) := by
  obtain ⟨W, X, Y, rfl⟩ := ZZ g; obtain ⟨rfl, r4⟩ := p1; refine ZV (K := 35) (args := [.slice W X Y, .int .u64 (n)]) hv Tryz.func167 rfl rfl zl fun f S => ?_; unfold Zsf at H; refine sr (mw S rfl fun f S => mw S rfl fun f S => oe (Zg fun _ ah => ?_)); obtain ⟨y9, F, H⟩ := Zb H; refine Zm (mv S rfl fun f S => ov S rfl (ZF S (Zt g) rfl rfl ZP) fun f S => ?_); obtain ⟨Z, aa⟩ : ∃ c : List Value, c = (List.replicate ((((Zh 18446744073709551616 a)).length : Int)).toNat [.int .u64 ((0 : Int))]).flatten := ⟨_, rfl⟩; obtain ⟨ai, w, aj, S⟩ := ZQb Zlc S (l := (((Zh 18446744073709551616 a)).length : Int)) (c := (((Zh 18446744073709551616 a)).length : Int)) (Z6 F).1 (Z6 F).2.1 (Z6 F).2.2.1 (Z6 F).2.2.2 aa; have ak : Rep.rels (Za .u64) d Z (List.replicate ((((Zh 18446744073709551616 a)).length : Int)).toNat ((0 : Int))) := by rw [aa]; exact ZHb (show Rep.rel (Za .u64) _ [.int .u64 ((0 : Int))] _ from (Zp (by decide))) _
  refine Zka wn rfl zl (aj rfl rfl) S fun f S => mw S rfl fun f S => Zl (Zc (ah _ _ (sr (mw S rfl fun f S => oe (Zg fun _ al => Zg fun _ am => ?_))))); obtain ⟨aV, ab, H⟩ := Zb H; refine Zm (mv S rfl fun f S => ov S rfl (ZF S (Zt g) rfl rfl ZP) fun f S => ov S rfl (Zk S rfl rfl (Zna ab)) fun f S => mw S rfl fun f S => Zl (Zc (am _ _ ?_))); obtain ⟨an, ao, ap⟩ := Zb H; refine ZS (fun f w => ∃ (o : (List Int)) (s : Int) (t : Option Nat) (p : Nat) (u : Nat) (L : List Value) (G : Zd), (o, s) = an ∧ Zd.le d G ∧ St 35 E d [(6, .slice (mkA t) (p) u), (7, .int .u64 (s))] [Loc.own t 211 1 (p) u L] G f w ∧ Rep.rels (Za .u64) G L o ∧ p = o.length ∧ inR .u64 s) (fun _ aq => ?_) ?_
  · have H := ao; refine wp_block ?_; obtain ⟨aW, ar, au⟩ := Zb H; refine Zma ar (fun av f w => ∃ (q : (List Int)) (h : Int) (b : Int) (I : Option Nat) (k : Nat) (v : Nat) (e : List Value) (J : Zd), (q, h, b) = av ∧ Zd.le d J ∧ St 35 E d [(0, .slice W X Y), (1, .int .u64 (n)), (6, .slice (mkA I) (k) v), (7, .int .u64 (h)), (8, .int .i64 (b))] [Loc.own I 211 1 (k) v e] J f w ∧ Rep.rels (Za .u64) J e q ∧ k = q.length ∧ inR .u64 h ∧ inR .i64 b) ⟨_, _, _, some ai, ((((Zh 18446744073709551616 a)).length : Int)).toNat, ((((Zh 18446744073709551616 a)).length : Int)).toNat, Z, _, rfl, (leR _), (S.fr' rfl), ak, (Zsb (x := (0 : Int))), (by decide), (Z1 ab).2⟩ ?_; rintro _ f w st ⟨q, h, b, I, k, v, e, J, hq, M, S, B, C, ac, aX⟩ H aY aw ax; subst hq; refine Zg fun _ ay => sr (mv S rfl fun f S => ov S rfl (Zk S rfl rfl Zhb) fun f S => oe ?_); rcases Zv (decide ((0 : Int) ≤ b)) with D | D
    · have H := Zw H D; refine ZB S rfl D (wp_skip (Zc (ay _ _ (Zg fun _ az => wp_block ?_)))); obtain ⟨N, O, H⟩ := Zb H; obtain ⟨m, aA, H⟩ := Zb H; obtain ⟨aZ, r, H⟩ := Zb H; refine Zm (mv S rfl fun f S => mv S rfl fun f S => mv S rfl fun f S => mv S rfl fun f S => mv S rfl fun f S => ?_); have g := Zq M g; obtain ⟨_, a0, a1, a2, rfl, P, aB⟩ := Zea g (Zj O).2.1; obtain ⟨rfl, aC⟩ := aB; refine ov S rfl (ZL S rfl rfl ZP (Zj O).1 (ltI (Zt g) (Zj O).2.2.1)) fun f S => ov S rfl (ZY S rfl Zpa (S.view P)) fun f S => mv S rfl fun f S => opc S rfl (Zo S [.int .u64 (h), .int .u64 (N), .int .u64 (n)] ZPj rfl rfl) (Zfl S.vin (show Rep.rel (Za .u64) _ [.int .u64 (h)] h from (Zp ac)) (show Rep.rel (Za .u64) _ [.int .u64 (N)] N from (Zp aC)) (show Rep.rel (Za .u64) _ [.int .u64 (n)] n from (Zp r4)) aA) ?_; rintro _ ad f w Q ⟨a3, a4, rfl, aD, aE⟩ S; have B := ZH Q B; have P := Atm Q P; obtain ⟨rfl, aF⟩ := aD; obtain ⟨rfl, aG⟩ := aE; refine mv S rfl fun f S => ov S rfl (ZN S rfl rfl) fun f S => ov S rfl (ZN S rfl rfl) fun f S => ?_; obtain ⟨aH, rfl⟩ := Zub S (j := 0) rfl (ZBb C (Zj r).2.2.2); have ae := Zta B (Zj r).2.1; obtain ⟨a5, aI⟩ : ∃ c, (List.take (Za .u64).n (List.drop ((b).toNat * (Za .u64).n) e)) = c := ⟨_, rfl⟩
      rw [aI] at ae; obtain ⟨rfl, a6⟩ := ae; refine ov S rfl (ZL S rfl rfl ZP (Zj r).1 (ltI C (Zj r).2.2.1)) fun f S => ?_; obtain ⟨w, aJ, S⟩ := Ztb S Zpa (off := 0 + (b).toNat * 1) (z := .int .u64 (m.1)) (cs := [.int .u64 (m.1)]) (Zdb rfl) rfl (i := 0) rfl (Zxb S (j := 0) rfl (ltN C (Zj r).2.2.2)) (by first | rfl | simp [ZFa]); have aK : Rep.rels (Za .u64) ad (List.take (0 + (b).toNat * 1) e ++ [Value.int IntKind.u64 (m.1)] ++ List.drop (0 + (b).toNat * 1 + 1) e) (q.set (b).toNat m.1) := Zjb B (Zj r).2.2.2 (show Rep.rel (Za .u64) ad [.int .u64 (m.1)] _ from (Zp aF)) rfl rfl; have aL : k = (q.set (b).toNat m.1).length := Zlb C; refine ZX wn rfl (aJ rfl rfl) (mw S rfl fun f S => Zl (Zia (Zc (az _ _ ?_)))); obtain ⟨a7, af, H⟩ := Zb H; refine Zm (mv S rfl fun f S => ov S rfl (Zk S rfl rfl (Zna af)) fun f S => mw S rfl fun f S => Zl ?_); obtain rfl := Zi H; refine aw _ rfl _ _ ⟨_, _, _, some aH, k, v, (List.take (0 + (b).toNat * 1) e ++ [Value.int IntKind.u64 (m.1)] ++ List.drop (0 + (b).toNat * 1 + 1) e), _, rfl, (leT M Q), (S.fr' rfl), aK, aL, aG, (Z1 af).2⟩
    have H := Zx H D; refine ZC S rfl D (wp_exit (ZT ?_)); obtain rfl := Zi H; have hq := ax _ rfl; subst hq; have H := au; refine ZT (Zga ?_); obtain rfl := Zi H; refine Zc (aq _ _ ⟨_, _, I, k, v, e, _, rfl, (leT (leR _) M), (S.fr' rfl), B, C, ac⟩)
  rintro f w ⟨o, s, t, p, u, L, G, hq, a8, S, aM, aN, aO⟩; subst hq; have H := ap; refine Zc (al _ _ (Zg fun _ aP => ?_)); obtain ⟨a9, aQ, H⟩ := Zb H; refine Zm (mv S rfl fun f S => ?_); obtain ⟨ba, bb, S, aR⟩ := S.pubSlice (i := 0) (A := (Za .u64)) (l := o) (ℓ' := []) rfl rfl aN aM rfl; refine opc S rfl (Zo S [.slice (mkA t) (p) u] Z3c rfl rfl) (Zdd S.vin (show Rep.rel (Zu (Za .u64)) _ [.slice (mkA t) (p) u] o from aR) aQ) ?_; rintro _ bc f w bd ⟨be, rfl, ag⟩ S; obtain ⟨aS, aT, aU, rfl⟩ := ZZ ag; refine mv S rfl fun f S => mw S rfl fun f S => mw S rfl fun f S => Zl (Zc (aP _ _ (wp_ret ?_))); obtain rfl := Zi H; refine ZA S (Zya rfl (ZD S rfl) (ZD S rfl)) ⟨[.slice aS aT aU], [.int .u64 (s)], rfl, ag, (Zp aO)⟩
theorem ZGj {c : World} {b : Zd} (hv : VIn b c) {d : List Value} {a : Nat} (i : Rep.rel Zy b d a) {e : List Value} {n : Int} (f : Rep.rel (Za .u64) b e n) {z : Nat × Int} (hm : Zrd a n = some z) :
    Ret Tryz.prog 167 #[Zy.val d, (Za .u64).val e] c b (fun y v' => ∃ g h, y = Value.tuple #[Zy.val g, (Za .u64).val h] ∧ Zy.rel v' g z.1 ∧ (Za .u64).rel v' h z.2) :=
  ZOo hv i f (ZAl f.2 hm)
theorem cmp_w {m : World} {e : Zd} (hv : VIn e m) {A : List Value} {a : (List Int)} (c : Rep.rel (Zu (Za .u64)) e A a) {B : List Value} {b : (List Int)} (d : Rep.rel (Zu (Za .u64)) e B b) {z : Int} (H : Zoh a b = some z) : Ret Tryz.prog 87 #[(Zu (Za .u64)).val A, (Zu (Za .u64)).val B] m e (fun y v' => ∃ C, y = (Za .i64).val C ∧ (Za .i64).rel v' C z) := by
  obtain ⟨D, E, G, rfl⟩ := ZEa c; obtain ⟨I, J, L, rfl⟩ := ZEa d; refine ZV (K := 41) (args := [.slice D (E) G, .slice I (J) L]) hv Tryz.func87 rfl rfl zl fun f S => ?_; unfold Zoh at H; refine sr (mw S rfl fun f S => oe (Zg fun _ P => sr (mv S rfl fun f S => ov S rfl (ZF S (Zt c) rfl rfl ZP) fun f S => mv S rfl fun f S => ov S rfl (ZF S (Zt d) rfl rfl ZP) fun f S => ov S rfl (Zk S rfl rfl Z6c) fun f S => oe ?_))); rcases Zv (((a.length : Int)) != ((b.length : Int))) with g | g
  · have H := Zw H g; refine ZB S rfl g (Zg fun _ Q => sr (mv S rfl fun f S => ov S rfl (ZF S (Zt c) rfl rfl ZP) fun f S => mv S rfl fun f S => ov S rfl (ZF S (Zt d) rfl rfl ZP) fun f S => ov S rfl (Zk S rfl rfl Zaa) fun f S => oe ?_)); rcases Zv (decide ((a.length : Int) < (b.length : Int))) with h | h
    · have H := Zw H h; refine ZB S rfl h (sr (mw S rfl fun f S => oe (wp_ret (ZQ (ZQ ?_))))); obtain rfl := Zi H; refine ZA S (ZM rfl (ZD S rfl)) ⟨[.int .i64 ((-1 : Int))], rfl, (Zp (by decide))⟩
    have H := Zx H h; refine ZC S rfl h (wp_skip (Zc (Q _ _ (sr (mw S rfl fun f S => oe (wp_ret (ZQ ?_))))))); obtain rfl := Zi H; refine ZA S (ZM rfl (ZD S rfl)) ⟨[.int .i64 ((1 : Int))], rfl, (Zp (by decide))⟩
  have H := Zx H g; refine ZC S rfl g (wp_skip (Zc (P _ _ (Zg fun _ R => Zg fun _ T => ?_)))); obtain ⟨ar, M, H⟩ := Zb H; refine Zm (mv S rfl fun f S => ov S rfl (ZF S (Zt c) rfl rfl ZP) fun f S => ov S rfl (Zk S rfl rfl (Zna M)) fun f S => mw S rfl fun f S => Zl (Zc (T _ _ ?_))); obtain ⟨U, V, o⟩ := Zb H; refine ZS (fun f w => ∃  (p : Zd), (.inl (())) = U ∧ Zd.le e p ∧ St 41 m e [] [] p f w) (fun _ W => ?_) ?_
  · have H := V; refine wp_block ?_; obtain ⟨au, X, q⟩ := Zb H; refine Zma X (fun Y f w => ∃ (i : Int) (r : Zd), i = Y ∧ Zd.le e r ∧ St 41 m e [(0, .slice D (E) G), (1, .slice I (J) L), (5, .int .i64 (i))] [] r f w ∧ inR .i64 i) ⟨_, _, rfl, (leR _), (S.fr' rfl), (Z1 M).2⟩ ?_; rintro _ f w st ⟨i, r, hq, n, S, av⟩ H aw Z s; subst hq; refine Zg fun _ aa => sr (mv S rfl fun f S => ov S rfl (Zk S rfl rfl Zhb) fun f S => oe ?_); rcases Zv (decide ((0 : Int) ≤ i)) with j | j
    · have H := Zw H j; refine ZB S rfl j (wp_skip (Zc (aa _ _ (Zg fun _ ab => wp_block (Zg fun _ ac => Zg fun _ ad => ?_))))); obtain ⟨ae, t, H⟩ := Zb H; obtain ⟨af, u, H⟩ := Zb H; refine Zqa (fl := #[true, true, true, true, true, true, true, true, true]) Zra (by kernel_rfl) S ?_; intro ops O F w S; refine rfa O F 0 rfl rfl S (Zn S rfl) fun f S => rfa O F 1 rfl rfl S (Zn S rfl) fun f S => ?_; have c := Zq n c; obtain ⟨_, ax, ay, az, rfl, ag, ah⟩ := Zea c (Zj t).2.1; obtain ⟨rfl, aA⟩ := ah; refine rfa O F 2 rfl rfl S (ZL S rfl rfl ZP (Zj t).1 (ltI (Zt c) (Zj t).2.2.1)) fun f S => rfa O F 3 rfl rfl S (ZY S rfl Zpa (S.view ag)) fun f S => rfa O F 4 rfl rfl S (Zn S rfl) fun f S => rfa O F 5 rfl rfl S (Zn S rfl) fun f S => ?_; have d := Zq n d; obtain ⟨_, aB, aC, aD, rfl, ai, aj⟩ := Zea d (Zj u).2.1; obtain ⟨rfl, aE⟩ := aj; refine rfa O F 6 rfl rfl S (ZL S rfl rfl ZP (Zj u).1 (ltI (Zt d) (Zj u).2.2.1)) fun f S => rfa O F 7 rfl rfl S (ZY S rfl Zpa (S.view ai)) fun f S => rfa O F 8 rfl rfl S (Zk S rfl rfl Zaa) fun f S => Z9 O F (Zc (ad _ _ ?_)); rcases Zv (decide (ae < af)) with k | k
      · have H := Zw H k; refine ZB S rfl k (sr (mw S rfl fun f S => oe (wp_ret (ZQ (ZSa (ZQ ?_)))))); obtain rfl := Zi H; have hq := s _ rfl; subst hq; have H := q; refine ZQ (ZSa ?_); obtain rfl := Zi H; have H := o; refine ZQ (ZQ ?_); obtain rfl := Zi H; refine ZA S (ZM rfl (ZD S rfl)) ⟨[.int .i64 ((-1 : Int))], rfl, (Zp (by decide))⟩
      have H := Zx H k; refine ZC S rfl k (wp_skip (Zc (ac _ _ (Zg fun _ ak => ?_)))); obtain ⟨al, v, H⟩ := Zb H; obtain ⟨am, x, H⟩ := Zb H; refine Zqa (fl := #[true, true, true, true, true, true, true, true, true]) Zra (by kernel_rfl) S ?_; intro ops O F w S; refine rfa O F 0 rfl rfl S (Zn S rfl) fun f S => rfa O F 1 rfl rfl S (Zn S rfl) fun f S => ?_; obtain ⟨aF, an, ao⟩ := Zbb c (Zj v).2.1; obtain ⟨rfl, aG⟩ := ao; refine rfa O F 2 rfl rfl S (ZL S rfl rfl ZP (Zj v).1 (ltI (Zt c) (Zj v).2.2.1)) fun f S => rfa O F 3 rfl rfl S (ZY S rfl Zpa (S.view an)) fun f S => rfa O F 4 rfl rfl S (Zn S rfl) fun f S => rfa O F 5 rfl rfl S (Zn S rfl) fun f S => ?_; obtain ⟨aH, ap, aq⟩ := Zbb d (Zj x).2.1; obtain ⟨rfl, aI⟩ := aq; refine rfa O F 6 rfl rfl S (ZL S rfl rfl ZP (Zj x).1 (ltI (Zt d) (Zj x).2.2.1)) fun f S => rfa O F 7 rfl rfl S (ZY S rfl Zpa (S.view ap)) fun f S => rfa O F 8 rfl rfl S (Zk S rfl rfl ZIa) fun f S => Z9 O F (Zc (ak _ _ ?_)); rcases Zv (decide (am < al)) with l | l
      · have H := Zw H l; refine ZB S rfl l (sr (mw S rfl fun f S => oe (wp_ret (ZSa (ZQ ?_))))); obtain rfl := Zi H; have hq := s _ rfl; subst hq; have H := q; refine ZQ (ZSa ?_); obtain rfl := Zi H; have H := o; refine ZQ (ZQ ?_); obtain rfl := Zi H; refine ZA S (ZM rfl (ZD S rfl)) ⟨[.int .i64 ((1 : Int))], rfl, (Zp (by decide))⟩
      have H := Zx H l; refine ZC S rfl l (wp_skip (Zia (Zc (ab _ _ ?_)))); obtain ⟨aJ, N, H⟩ := Zb H; refine Zm (mv S rfl fun f S => ov S rfl (Zk S rfl rfl (Zna N)) fun f S => mw S rfl fun f S => Zl ?_); obtain rfl := Zi H; refine Z _ rfl _ _ ⟨_, _, rfl, n, (S.fr' rfl), (Z1 N).2⟩
    have H := Zx H j; refine ZC S rfl j (wp_exit (ZT ?_)); obtain rfl := Zi H; have hq := s _ rfl; subst hq; have H := q; refine ZT (Zga ?_); obtain rfl := Zi H; refine Zc (W _ _ ⟨_, rfl, (leT (leR _) n), (S.fr' rfl)⟩)
  rintro f w ⟨p, hq, aK, S⟩; subst hq; have H := o; refine Zc (R _ _ (sr (mw S rfl fun f S => oe (wp_ret ?_)))); obtain rfl := Zi H; refine ZA S (ZM rfl (ZD S rfl)) ⟨[.int .i64 ((0 : Int))], rfl, (Zp (by decide))⟩
theorem ZHe {d : World} {c : Zd} (hv : VIn c d) {e : List Value} {a : Nat} (f : Rep.rel Zy c e a) {g : List Value} {b : Nat} (h : Rep.rel Zy c g b) {z : Int} (hm : Z0c a b = some z) :
    Ret Tryz.prog 87 #[Zy.val e, Zy.val g] d c (fun y v' => ∃ i, y = (Za .i64).val i ∧ (Za .i64).rel v' i z) :=
  cmp_w hv f h ((cmp_eq (Z2j f) (Z2j h)).trans hm)
theorem take_w {R : World} {o : Zd} (hv : VIn o R) {a off0 g C : Nat} {E : TypeId} {pre0 cs0 post0 : List Value} {u : (List Int)} (bf : R.heap[a]? = some (.cells (pre0 ++ cs0 ++ post0).toArray E (0, 0))) (aG : off0 = pre0.length) (bg : o a = none) (au : g = u.length) (bh : g ≤ C ∧ C ≤ maxLen) (r : Rep.rels (Za .u64) o cs0 u) {c1 : List Value} {v : Nat} (D : Rep.rel Zy o c1 v) {c2 : List Value} {q : Int} (p2 : Rep.rel (Za .u64) o c2 q) {z : Bool × (List Int)} (H : ZRf u v q = some z) : RetL Tryz.prog 197 #[.slice (some ⟨a, off0, none⟩) g C, Zy.val c1, (Za .u64).val c2] R o [a] (fun y v' w' => (∃ r0, y = ZR.val r0 ∧ ZR.rel v' r0 z.1) ∧ v' a = none ∧ ∃ cs, w'.heap[a]? = some (.cells (pre0 ++ cs ++ post0).toArray E (0, 0)) ∧ g = z.2.length ∧ Rep.rels (Za .u64) v' cs z.2) := by
  obtain ⟨q1, V, W, rfl⟩ := ZZ D; obtain ⟨rfl, r4⟩ := p2; refine Ztj (K := 79) (args := [.slice (some ⟨a, off0, none⟩) (g) C, .slice q1 V W, .int .u64 (q)]) hv bf bg Tryz.func197 rfl rfl zl fun f S => ?_; unfold ZRf at H; refine sr (mw S rfl fun f S => oe (Zg fun _ bi => ?_)); obtain ⟨J, bj, H⟩ := Zb H; obtain ⟨cA, av, H⟩ := Zb H; refine Zm (mv S rfl fun f S => ov S rfl (ZF S (Zt D) rfl rfl ZP) fun f S => ov S rfl (Zk S rfl rfl (Z5 bj)) fun f S => ?_); obtain ⟨aH, aQ⟩ : ∃ c : List Value, c = (List.replicate (J).toNat [.int .u64 ((0 : Int))]).flatten := ⟨_, rfl⟩; obtain ⟨aR, w, bk, S⟩ := ZQb Zlc S (l := J) (c := J) (Z6 av).1 (Z6 av).2.1 (Z6 av).2.2.1 (Z6 av).2.2.2 aQ; have bm : Rep.rels (Za .u64) o aH (List.replicate (J).toNat ((0 : Int))) := by rw [aQ]; exact ZHb (show Rep.rel (Za .u64) _ [.int .u64 ((0 : Int))] _ from (Zp (by decide))) _
  refine Zka wn rfl zl (bk rfl rfl) S fun f S => mw S rfl fun f S => Zl (Zc (bi _ _ (sr (mw S rfl fun f S => oe (Zg fun _ bn => sr (mv S rfl fun f S => ov S rfl (ZF S (Zt D) rfl rfl ZP) fun f S => mv S rfl fun f S => oe ?_)))))); obtain ⟨bo, bp, bq⟩ := Zb H; refine ZS (fun f w => ∃ (L : (List Int)) (b : Int) (aI : Option Nat) (s : Nat) (G : Nat) (h : List Value) (X : Zd), (L, b) = bo ∧ Zd.le o X ∧ St 79 ⟨R, [a]⟩ o [(0, .slice (some ⟨a, off0, none⟩) (g) C), (1, .slice q1 V W), (7, .slice (mkA aI) (s) G), (8, .int .u64 (b))] [Loc.box a E (pre0 ++ cs0 ++ post0), Loc.own aI 211 1 (s) G h] X f w ∧ Rep.rels (Za .u64) X h L ∧ s = L.length ∧ inR .u64 b) (fun _ br => ?_) ?_
  · have H := bp; refine wp_block ?_; obtain ⟨cB, bs, bt⟩ := Zb H; have S := S.reorder (ℓ' := [Loc.box a E (pre0 ++ cs0 ++ post0), Loc.own (some aR) 211 1 ((J).toNat) (J).toNat aH]) [1, 0] rfl (by decide); refine Zma bs (fun bu f w => ∃ (Y : (List Int)) (ag : Int) (m : Int) (aw : Option Nat) (M : Nat) (Z : Nat) (I : List Value) (ax : Zd), (Y, ag, m) = bu ∧ Zd.le o ax ∧ St 79 ⟨R, [a]⟩ o [(0, .slice (some ⟨a, off0, none⟩) (g) C), (1, .slice q1 V W), (2, .int .u64 (q)), (7, .slice (mkA aw) (M) Z), (8, .int .u64 (ag)), (20, .slice q1 V W), (21, .int .i64 ((((Zh 18446744073709551616 v)).length : Int))), (22, .int .i64 (m))] [Loc.box a E (pre0 ++ cs0 ++ post0), Loc.own aw 211 1 (M) Z I] ax f w ∧ Rep.rels (Za .u64) ax I Y ∧ M = Y.length ∧ inR .u64 ag ∧ inR .i64 m) ⟨_, _, _, some aR, (J).toNat, (J).toNat, aH, _, rfl, (leR _), (S.fr' rfl), bm, (Zsb (x := (0 : Int))), (by decide), (by decide)⟩ ?_; rintro _ f w st ⟨Y, ag, m, aw, M, Z, I, ax, hq, ay, S, ah, ai, bv, cC⟩ H cD bw bx; subst hq; have r := ZH ay r; refine sr (ov S rfl (Zk S rfl rfl Zaa) fun f S => oe (Zg fun _ bz => ?_)); rcases Zv (decide (m < (((Zh 18446744073709551616 v)).length : Int))) with aj | aj
    · have H := Zw H aj; refine ZB S rfl aj (wp_skip (Zc (bz _ _ (Zg fun _ bA => wp_block (Zg fun _ bB => ?_))))); obtain ⟨aJ, aK, H⟩ := Zb H; refine Zm (mv S rfl fun f S => ?_); have D := Zq ay D; obtain ⟨_, aS, aT, cE, rfl, bC, bD⟩ := Zea D (Zj aK).2.1; obtain ⟨rfl, bE⟩ := bD; refine ov S rfl (ZL S rfl rfl ZP (Zj aK).1 (ltI (Zt D) (Zj aK).2.2.1)) fun f S => ov S rfl (ZY S rfl Zpa (S.view bC)) fun f S => mw S rfl fun f S => mw S rfl fun f S => Zl (Zc (bB _ _ (Zg fun _ bF => ?_))); obtain ⟨aU, bG, H⟩ := Zb H; refine Zm (mv S rfl fun f S => mv S rfl fun f S => opc S rfl (Zo S [.int .u64 (aJ), .int .u64 (q)] Zej rfl rfl) (Zfi S.vin (show Rep.rel (Za .u64) _ [.int .u64 (aJ)] aJ from (Zp bE)) (show Rep.rel (Za .u64) _ [.int .u64 (q)] q from (Zp r4)) bG) ?_); rintro _ aV f w aL ⟨cF, cG, rfl, bH, bI⟩ S; have r := ZH aL r; have ah := ZH aL ah; obtain ⟨rfl, cH⟩ := bH; obtain ⟨rfl, cI⟩ := bI; refine mv S rfl fun f S => ov S rfl (ZN S rfl rfl) fun f S => ov S rfl (ZN S rfl rfl) fun f S => mw S rfl fun f S => mw S rfl fun f S => Zl (Zc (bF _ _ (sr (mw S rfl fun f S => oe (Zg fun _ bJ => ?_))))); obtain ⟨N, aW, H⟩ := Zb H; obtain ⟨cJ, aa, H⟩ := Zb H; refine Zm (mv S rfl fun f S => mv S rfl fun f S => mv S rfl fun f S => mv S rfl fun f S => ov S rfl (Zee S [.int .u64 (aU.2), .int .u64 (ag), .int .u64 ((0 : Int))] (ZOf ZLf aW) rfl rfl) fun f S => mv S rfl fun f S => ov S rfl (ZN S rfl rfl) fun f S => ov S rfl (ZN S rfl rfl) fun f S => ?_)
      obtain ⟨aX, rfl⟩ := Zub S (j := 1) rfl (ZBb ai (Zj aa).2.2.2); have aY := Zta ah (Zj aa).2.1; obtain ⟨cK, bK⟩ : ∃ c, (List.take (Za .u64).n (List.drop ((m).toNat * (Za .u64).n) I)) = c := ⟨_, rfl⟩; rw [bK] at aY; obtain ⟨rfl, cL⟩ := aY; refine ov S rfl (ZL S rfl rfl ZP (Zj aa).1 (ltI ai (Zj aa).2.2.1)) fun f S => ?_; obtain ⟨w, bL, S⟩ := Ztb S Zpa (off := 0 + (m).toNat * 1) (z := .int .u64 (N.1)) (cs := [.int .u64 (N.1)]) (Zdb rfl) rfl (i := 1) rfl (Zxb S (j := 1) rfl (ltN ai (Zj aa).2.2.2)) (by first | rfl | simp [ZFa]); have bM : Rep.rels (Za .u64) aV (List.take (0 + (m).toNat * 1) I ++ [Value.int IntKind.u64 (N.1)] ++ List.drop (0 + (m).toNat * 1 + 1) I) (Y.set (m).toNat N.1) := Zjb ah (Zj aa).2.2.2 (show Rep.rel (Za .u64) aV [.int .u64 (N.1)] _ from (Zp (Zqh aW))) rfl rfl; have bN : M = (Y.set (m).toNat N.1).length := Zlb ai; refine ZX wn rfl (bL rfl rfl) (mw S rfl fun f S => Zl ?_); have S := S.fr' (σ' := [(0, .slice (some ⟨a, off0, none⟩) (g) C), (1, .slice (some ⟨aS, aT, none⟩) V W), (2, .int .u64 (q)), (7, .slice (mkA (some aX)) (M) Z), (11, .int .u64 (aU.1)), (13, .int .u64 (N.2)), (20, .slice (some ⟨aS, aT, none⟩) V W), (21, .int .i64 ((((Zh 18446744073709551616 v)).length : Int))), (22, .int .i64 (m))]) rfl
      refine Zc (bJ _ _ (Zm (mv S rfl fun f S => mv S rfl fun f S => ov S rfl (Zk S rfl rfl ZNb) fun f S => mw S rfl fun f S => Zl (Zia (Zc (bA _ _ ?_)))))); obtain ⟨cM, aZ, H⟩ := Zb H; refine Zm (ov S rfl (Zk S rfl rfl (Z5 aZ)) fun f S => mv S rfl fun f S => Zl ?_); obtain rfl := Zi H; refine bw _ rfl _ _ ⟨_, _, _, some aX, M, Z, (List.take (0 + (m).toNat * 1) I ++ [Value.int IntKind.u64 (N.1)] ++ List.drop (0 + (m).toNat * 1 + 1) I), _, rfl, (leT ay aL), (S.fr' rfl), bM, bN, (Zua _ _), (Z1 aZ).2⟩
    have H := Zx H aj; refine ZC S rfl aj (wp_exit (ZT ?_)); obtain rfl := Zi H; have hq := bx _ rfl; subst hq; have H := bt; refine ZT (Zga ?_); obtain rfl := Zi H; refine Zc (br _ _ ⟨_, _, aw, M, Z, I, _, rfl, (leT (leR _) ay), (S.fr' rfl), ah, ai, bv⟩)
  rintro f w ⟨L, b, aI, s, G, h, X, hq, a0, S, a1, az, bO⟩; subst hq; have H := bq; have r := ZH a0 r; refine Zc (bn _ _ (Zg fun _ bP => ?_)); obtain ⟨cN, ab, H⟩ := Zb H; refine Zm (mv S rfl fun f S => mv S rfl fun f S => ?_); have D := Zq a0 D; refine ov S rfl (ZF S (Zt D) rfl rfl ZP) fun f S => mv S rfl fun f S => ?_; obtain ⟨ac, rfl⟩ := Zub S (j := 1) rfl (ZBb az (Zj ab).2.2.2); have a2 := Zta a1 (Zj ab).2.1; obtain ⟨cO, bQ⟩ : ∃ c, (List.take (Za .u64).n (List.drop (((((Zh 18446744073709551616 v)).length : Int)).toNat * (Za .u64).n) h)) = c := ⟨_, rfl⟩; rw [bQ] at a2; obtain ⟨rfl, cP⟩ := a2; refine ov S rfl (ZL S rfl rfl ZP (Zj ab).1 (ltI az (Zj ab).2.2.1)) fun f S => ?_; obtain ⟨w, bR, S⟩ := Ztb S Zpa (off := 0 + ((((Zh 18446744073709551616 v)).length : Int)).toNat * 1) (z := .int .u64 (b)) (cs := [.int .u64 (b)]) (Zdb rfl) rfl (i := 1) rfl (Zxb S (j := 1) rfl (ltN az (Zj ab).2.2.2)) (by first | rfl | simp [ZFa]); have p : Rep.rels (Za .u64) X (List.take (0 + ((((Zh 18446744073709551616 v)).length : Int)).toNat * 1) h ++ [Value.int IntKind.u64 (b)] ++ List.drop (0 + ((((Zh 18446744073709551616 v)).length : Int)).toNat * 1 + 1) h) (L.set ((((Zh 18446744073709551616 v)).length : Int)).toNat b) := Zjb a1 (Zj ab).2.2.2 (show Rep.rel (Za .u64) X [.int .u64 (b)] _ from (Zp bO)) rfl rfl
  have aM : s = (L.set ((((Zh 18446744073709551616 v)).length : Int)).toNat b).length := Zlb az; refine ZX wn rfl (bR rfl rfl) (Zl (Zc (bP _ _ (Zg fun _ bS => Zg fun _ bT => ?_)))); obtain ⟨cQ, bU, H⟩ := Zb H; obtain ⟨cR, bV, H⟩ := Zb H; obtain ⟨bW, bX, H⟩ := Zb H; refine Zm (mv S rfl fun f S => ?_); have p0s120 := r; have h69s120 := p; have bY := S.vst.le; obtain ⟨cS, cT, a3, t, S, bZ, b1, b2, T⟩ := S.lendSeg (i := 0) (A := (Za .u64)) (l := u) (ℓ' := [Loc.own (some ac) 211 1 (s) G ((List.take (0 + ((((Zh 18446744073709551616 v)).length : Int)).toNat * 1) h ++ [Value.int IntKind.u64 (b)] ++ List.drop (0 + ((((Zh 18446744073709551616 v)).length : Int)).toNat * 1 + 1) h))]) rfl rfl aG r au bh; have p := ZH a3 p; refine opc S rfl (Zo S [.slice (some ⟨a, off0, none⟩) (g) C] Z3c rfl rfl) (Zdd S.vin (show Rep.rel (Zu (Za .u64)) _ [.slice (some ⟨a, off0, none⟩) (g) C] u from T) bU) ?_; rintro _ cU f w aA ⟨cV, rfl, P⟩ S; have p := ZH aA p; have t := aA _ _ t; obtain ⟨b3, b4, b5, rfl⟩ := ZZ P; refine mv S rfl fun f S => ?_; have T := Zq aA T; have h128s137 := T; have h69s137 := p; have h133s137 := P; have h124s137 := t; have b6 := S.vst.le; obtain ⟨cW, cX, aB, ak, S, b7, b8, b9, ca⟩ := S.lendSlice (i := 0) (A := (Za .u64)) (l := (L.set ((((Zh 18446744073709551616 v)).length : Int)).toNat b)) (ℓ' := []) rfl rfl rfl p aM
  have t := aB _ _ t; refine opc S rfl (Zo S [.slice (mkA (some ac)) (s) G] Z3c rfl rfl) (Zdd S.vin (show Rep.rel (Zu (Za .u64)) _ [.slice (mkA (some ac)) (s) G] ((L.set ((((Zh 18446744073709551616 v)).length : Int)).toNat b)) from ca) bV) ?_; rintro _ cY f w al ⟨cZ, rfl, a4⟩ S; have t := al _ _ t; have ak := al _ _ ak; obtain ⟨cb, cc, cd, rfl⟩ := ZZ a4; have P := Zq (leT aB al) P; refine opc S rfl (Zo S [.slice b3 b4 b5, .slice cb cc cd] Z9e rfl rfl) (ZHe S.vin P a4 bX) ?_; rintro _ c0 f w am ⟨c3, rfl, ce⟩ S; have t := am _ _ t; have ak := am _ _ ak; obtain ⟨rfl, c4⟩ := ce; refine ov S rfl (Zk S rfl rfl Zaa) fun f S => Zl ?_; obtain ⟨c5, an, S⟩ := S.takeBack (e := Loc.own (some ac) 211 1 (s) G ((List.take (0 + ((((Zh 18446744073709551616 v)).length : Int)).toNat * 1) h ++ [Value.int IntKind.u64 (b)] ++ List.drop (0 + ((((Zh 18446744073709551616 v)).length : Int)).toNat * 1 + 1) h))) (leT (leT aB al) am) rfl ak b7 b8 b6 b9; have T := Zq (leT (leT aB al) am) T; have T := Zq an h128s137; have p := ZH an h69s137; have P := Zq am P; have P := Zq an h133s137; have t := an _ _ h124s137; obtain ⟨a5, a6, S⟩ := S.takeBack (e := Loc.box a E (pre0 ++ cs0 ++ post0)) (leT (leT a3 aA) an) rfl t bZ b1 bY b2; have r := ZH a6 p0s120
  have p := ZH a6 h69s120; refine Zc (bT _ _ ?_); rcases Zv (decide (bW < (0 : Int))) with ao | ao
  · have H := Zw H ao; refine ZB S rfl ao (sr (mw S rfl fun f S => oe (wp_ret (ZQ ?_)))); obtain rfl := Zi H; refine Z8h S (ZM rfl (ZD S rfl)) ⟨⟨[.bool (false)], rfl, ZCa⟩, (S.boxAt (j := 0) rfl).2, _, (S.boxAt (j := 0) rfl).1, au, r⟩
  have H := Zx H ao; refine ZC S rfl ao (wp_skip (Zc (bS _ _ (sr (mw S rfl fun f S => oe (Zg fun _ cf => sr (mv S rfl fun f S => ov S rfl (ZF S au rfl rfl ZP) fun f S => mv S rfl fun f S => oe ?_))))))); obtain ⟨cg, ch, ci⟩ := Zb H; refine ZS (fun f w => ∃ (aC : (List Int)) (aN : List Value) (aD : Zd), aC = cg ∧ Zd.le a5 aD ∧ St 79 ⟨R, [a]⟩ o [] [Loc.box a E (pre0 ++ aN ++ post0)] aD f w ∧ Rep.rels (Za .u64) aD aN aC ∧ g = aC.length) (fun _ cj => ?_) ?_
  · have H := ch; refine wp_block ?_; obtain ⟨c6, ck, cl⟩ := Zb H; refine Zma ck (fun cm f w => ∃ (ad : (List Int)) (ap : Int) (d : Int) (B : List Value) (ae : Zd), (ad, ap, d) = cm ∧ Zd.le a5 ae ∧ St 79 ⟨R, [a]⟩ o [(0, .slice (some ⟨a, off0, none⟩) (g) C), (7, .slice (mkA (some ac)) (s) G), (14, .int .u64 (ap)), (58, .int .i64 ((u.length : Int))), (59, .int .i64 (d))] [Loc.box a E (pre0 ++ B ++ post0), Loc.own (some ac) 211 1 (s) G ((List.take (0 + ((((Zh 18446744073709551616 v)).length : Int)).toNat * 1) h ++ [Value.int IntKind.u64 (b)] ++ List.drop (0 + ((((Zh 18446744073709551616 v)).length : Int)).toNat * 1 + 1) h))] ae f w ∧ Rep.rels (Za .u64) ae B ad ∧ g = ad.length ∧ inR .u64 ap ∧ inR .i64 d) ⟨_, _, _, cs0, _, rfl, (leR _), (S.fr' rfl), r, au, (by decide), (by decide)⟩ ?_; rintro _ f w st ⟨ad, ap, d, B, ae, hq, aO, S, af, Q, c7, c8⟩ H c9 cn co; subst hq; have p := ZH aO p; refine sr (ov S rfl (Zk S rfl rfl Zaa) fun f S => oe (Zg fun _ cp => ?_)); rcases Zv (decide (d < (u.length : Int))) with aq | aq
    · have H := Zw H aq; refine ZB S rfl aq (wp_skip (Zc (cp _ _ (Zg fun _ cq => wp_block (sr (mv S rfl fun f S => mw S rfl fun f S => oe ?_)))))); obtain ⟨a7, aE, H⟩ := Zb H; obtain ⟨a8, aF, H⟩ := Zb H; obtain ⟨U, aP, H⟩ := Zb H; obtain ⟨da, ar, H⟩ := Zb H; refine Zqa (fl := #[true, true, true, true, true, true, true, true, true, true, true, false, true, true, true, true, false, false]) Zra (by kernel_rfl) S ?_; intro ops O F w S; refine rfa O F 0 rfl rfl S (Zn S rfl) fun f S => rfa O F 1 rfl rfl S (Zn S rfl) fun f S => rfa O F 2 rfl rfl S (Zn S rfl) fun f S => rfa O F 3 rfl rfl S (Zn S rfl) fun f S => ?_; have a9 := Zta af (Zj aE).2.1; obtain ⟨db, ba⟩ : ∃ c, (List.take (Za .u64).n (List.drop ((d).toNat * (Za .u64).n) B)) = c := ⟨_, rfl⟩; rw [ba] at a9; obtain ⟨rfl, cr⟩ := a9; refine rfa O F 4 rfl rfl S (ZL S rfl rfl ZP (Zj aE).1 (ltI Q (Zj aE).2.2.1)) fun f S => rfa O F 5 rfl rfl S (ZY S rfl Zpa (ZJf S (j := 0) rfl aG (ZCb af Q) ba (ltN Q (Zj aE).2.2.2) 0 [.int .u64 (a7)] rfl zl)) fun f S => rfa O F 6 rfl rfl S (Zn S rfl) fun f S => rfa O F 7 rfl rfl S (Zn S rfl) fun f S => ?_; have bb := Zta p (Zj aF).2.1; obtain ⟨dc, bc⟩ : ∃ c, (List.take (Za .u64).n (List.drop ((d).toNat * (Za .u64).n) (List.take (0 + ((((Zh 18446744073709551616 v)).length : Int)).toNat * 1) h ++ [Value.int IntKind.u64 (b)] ++ List.drop (0 + ((((Zh 18446744073709551616 v)).length : Int)).toNat * 1 + 1) h))) = c := ⟨_, rfl⟩
      rw [bc] at bb; obtain ⟨rfl, ct⟩ := bb; refine rfa O F 8 rfl rfl S (ZL S rfl rfl ZP (Zj aF).1 (ltI aM (Zj aF).2.2.1)) fun f S => rfa O F 9 rfl rfl S (ZY S rfl Zpa (Z6b S (j := 1) rfl bc (ltN aM (Zj aF).2.2.2) 0 [.int .u64 (a8)] rfl zl)) fun f S => rfa O F 10 rfl rfl S (Zn S rfl) fun f S => go1 O F 11 (nva [5, 9, 10, 4, 8, 2, 3, 6, 7] [0, 1] O rfl rfl S (Zee S [.int .u64 (a7), .int .u64 (a8), .int .u64 (ap)] (Zdl Zzl cr ct aP) rfl rfl) fun f S => ⟨(py S rfl rfl (Zn S rfl) (py S rfl rfl (Zn S rfl) Zs)), rfa O F 12 rfl rfl S (Zn S rfl) fun f S => rfa O F 13 rfl rfl S (ZN S rfl rfl) fun f S => rfa O F 14 rfl rfl S (ZN S rfl rfl) fun f S => ?_⟩); have bd := Zta af (Zj ar).2.1; obtain ⟨dd, cu⟩ : ∃ c, (List.take (Za .u64).n (List.drop ((d).toNat * (Za .u64).n) B)) = c := ⟨_, rfl⟩; rw [cu] at bd; obtain ⟨rfl, de⟩ := bd; refine rfa O F 15 rfl rfl S (ZL S rfl rfl ZP (Zj ar).1 (ltI Q (Zj ar).2.2.1)) fun f S => go1 O F 16 ?_; obtain ⟨w, cv, S⟩ := ZYl S (k := (d).toNat) Zpa (z := .int .u64 (U.1)) (c := [.int .u64 (U.1)]) (Zdb rfl) rfl (i := 0) rfl aG (ZCb af Q) (ltN Q (Zj ar).2.2.2) rfl (by first | rfl | simp [ZFa]); have cw : Rep.rels (Za .u64) ae (List.take (0 + (d).toNat * 1) B ++ [Value.int IntKind.u64 (U.1)] ++ List.drop (0 + (d).toNat * 1 + 1) B) (ad.set (d).toNat U.1) := Zjb af (Zj ar).2.2.2 (show Rep.rel (Za .u64) ae [.int .u64 (U.1)] _ from (Zp (Z3k aP))) rfl rfl
      have cx : g = (ad.set (d).toNat U.1).length := Zlb Q; refine nxs [0, 1, 2, 3, 4, 5, 6, 7, 8, 9, 10, 11, 12, 13, 15] [14] O rfl rfl (cv rfl rfl) (⟨(py S rfl rfl (ZN S rfl rfl) Zs), go1 O F 17 (nva [0, 1, 2, 3, 4, 5, 6, 7, 8, 9, 10, 11, 12, 13, 14, 15, 16] [] O rfl rfl S (Zja S rfl) fun f S => ⟨Zs, Z9 O F (Zia (Zc (cq _ _ ?_)))⟩)⟩); obtain ⟨df, be, H⟩ := Zb H; refine Zm (ov S rfl (Zk S rfl rfl (Z5 be)) fun f S => mv S rfl fun f S => Zl ?_); obtain rfl := Zi H; refine cn _ rfl _ _ ⟨_, _, _, (List.take (0 + (d).toNat * 1) B ++ [Value.int IntKind.u64 (U.1)] ++ List.drop (0 + (d).toNat * 1 + 1) B), _, rfl, aO, (S.fr' rfl), cw, cx, (ZSk aP), (Z1 be).2⟩
    have H := Zx H aq; refine ZC S rfl aq (wp_exit (ZT ?_)); obtain rfl := Zi H; have hq := co _ rfl; subst hq; have H := cl; refine ZT (Zga ?_); obtain rfl := Zi H; have S := S.reorder (ℓ' := [Loc.box a E (pre0 ++ B ++ post0)]) [0] rfl (by decide); refine Zc (cj _ _ ⟨_, B, _, rfl, (leT (leR _) aO), (S.fr' rfl), af, Q⟩)
  rintro f w ⟨aC, aN, aD, hq, dg, S, cy, cz⟩; subst hq; have H := ci; refine Zc (cf _ _ (sr (mw S rfl fun f S => oe (wp_ret ?_)))); obtain rfl := Zi H; refine Z8h S (ZM rfl (ZD S rfl)) ⟨⟨[.bool (true)], rfl, ZCa⟩, (S.boxAt (j := 0) rfl).2, _, (S.boxAt (j := 0) rfl).1, cz, cy⟩
theorem take_c {d : World} {a : Zd} (hv : VIn a d) {b off0 c e : Nat} {f : TypeId} {pre0 cs0 post0 : List Value} {u : (List Int)} (l : d.heap[b]? = some (.cells (pre0 ++ cs0 ++ post0).toArray f (0, 0))) (m : off0 = pre0.length) (n : a b = none) (o : c = u.length) (p : c ≤ e ∧ e ≤ maxLen) (g : Rep.rels (Za .u64) a cs0 u) {h : List Value} {v : Nat} (r : Rep.rel Zy a h v) {i : List Value} {q : Int} (j : Rep.rel (Za .u64) a i q) {z : Bool × (List Int)} (hm : Z2e u v q = some z) :
    RetL Tryz.prog 197 #[Value.slice (some ⟨b, off0, none⟩) c e, Zy.val h, (Za .u64).val i] d a [b] (fun y v' w' => (∃ k, y = ZR.val k ∧ ZR.rel v' k z.1) ∧ v' b = none ∧ ∃ cs, w'.heap[b]? = some (.cells (pre0 ++ cs ++ post0).toArray f (0, 0)) ∧ c = z.2.length ∧ Rep.rels (Za .u64) v' cs z.2) :=
  take_w hv l m n o p g r j (ZXm (ZLi g) j.2 hm)
theorem digit_w {x : World} {m : Zd} (hv : VIn m x) {a off0 e h : Nat} {A : TypeId} {pre0 cs0 post0 : List Value} {u : (List Int)} (a0 : x.heap[a]? = some (.cells (pre0 ++ cs0 ++ post0).toArray A (0, 0))) (G : off0 = pre0.length) (a1 : m a = none) (k : e = u.length) (a2 : e ≤ h ∧ h ≤ maxLen) (d : Rep.rels (Za .u64) m cs0 u) {c1 : List Value} {v : Nat} (g : Rep.rel Zy m c1 v) {z : Int × (List Int)} (H : Z4f u v = some z) : RetL Tryz.prog 178 #[.slice (some ⟨a, off0, none⟩) e h, Zy.val c1] x m [a] (fun y v' w' => (∃ r0, y = (Za .u64).val r0 ∧ (Za .u64).rel v' r0 z.1) ∧ v' a = none ∧ ∃ cs, w'.heap[a]? = some (.cells (pre0 ++ cs ++ post0).toArray A (0, 0)) ∧ e = z.2.length ∧ Rep.rels (Za .u64) v' cs z.2) := by
  obtain ⟨q1, o, p, rfl⟩ := ZZ g; refine Ztj (K := 90) (args := [.slice (some ⟨a, off0, none⟩) (e) h, .slice q1 o p]) hv a0 a1 Tryz.func178 rfl rfl zl fun f S => ?_; unfold Z4f at H; refine sr (mw S rfl fun f S => oe (sr (mv S rfl fun f S => ov S rfl (ZF S (Zt g) rfl rfl ZP) fun f S => mw S rfl fun f S => oe (sr (mw S rfl fun f S => oe (Zg fun _ a3 => Zg fun _ a4 => ?_)))))); obtain ⟨aE, V, H⟩ := Zb H; obtain ⟨cf, a5, H⟩ := Zb H; obtain ⟨a6, aj, H⟩ := Zb H; refine Zqa (fl := #[true, true, true, true, true, true, true, true, true, true]) Zra (by kernel_rfl) S ?_; intro ops O F w S; refine rfa O F 0 rfl rfl S (Zn S rfl) fun f S => rfa O F 1 rfl rfl S (Zn S rfl) fun f S => ?_; have aF := Zta d (Zj V).2.1; obtain ⟨cg, aG⟩ : ∃ c, (List.take (Za .u64).n (List.drop (((((Zh 18446744073709551616 v)).length : Int)).toNat * (Za .u64).n) cs0)) = c := ⟨_, rfl⟩; rw [aG] at aF; obtain ⟨rfl, ch⟩ := aF; refine rfa O F 2 rfl rfl S (ZL S rfl rfl ZP (Zj V).1 (ltI k (Zj V).2.2.1)) fun f S => rfa O F 3 rfl rfl S (ZY S rfl Zpa (ZJf S (j := 0) rfl G (ZCb d k) aG (ltN k (Zj V).2.2.2) 0 [.int .u64 (aE)] rfl zl)) fun f S => rfa O F 4 rfl rfl S (Zn S rfl) fun f S => rfa O F 5 rfl rfl S (Zn S rfl) fun f S => rfa O F 6 rfl rfl S (Zk S rfl rfl (Zna a5)) fun f S => ?_; obtain ⟨_, r, s, ci, rfl, a7, a8⟩ := Zea g (Zj aj).2.1
  obtain ⟨rfl, cj⟩ := a8; refine rfa O F 7 rfl rfl S (ZL S rfl rfl ZP (Zj aj).1 (ltI (Zt g) (Zj aj).2.2.1)) fun f S => rfa O F 8 rfl rfl S (ZY S rfl Zpa (S.view a7)) fun f S => rfa O F 9 rfl rfl S (Zk S rfl rfl Zaa) fun f S => Z9 O F (Zc (a4 _ _ ?_)); obtain ⟨a9, ba, bb⟩ := Zb H; refine ZS (fun f w => ∃ (W : Int) (I : Zd), W = a9 ∧ Zd.le m I ∧ St 90 ⟨x, [a]⟩ m [(0, .slice (some ⟨a, off0, none⟩) (e) h), (1, .slice (some ⟨r, s, none⟩) o p), (6, .int .u64 (W))] [Loc.box a A (pre0 ++ cs0 ++ post0)] I f w ∧ inR .u64 W) (fun _ aH => ?_) ?_
  · have H := ba; rcases Zv (decide (aE < a6)) with J | J
    · have H := Zw H J; refine ZB S rfl J (sr (mw S rfl fun f S => oe (Zg fun _ bc => ?_))); obtain ⟨X, Y, H⟩ := Zb H; obtain ⟨bd, be, H⟩ := Zb H; obtain ⟨Z, aa, H⟩ := Zb H; obtain ⟨ck, bf, H⟩ := Zb H; obtain ⟨ak, al, H⟩ := Zb H; obtain ⟨aI, bg, H⟩ := Zb H; refine Zqa (fl := #[true, true, true, true, true, true, true, true, true, true, true, true, true, true, false, true, true, true, false, false]) Zra (by kernel_rfl) S ?_; intro ops O F w S; refine rfa O F 0 rfl rfl S (Zn S rfl) fun f S => rfa O F 1 rfl rfl S (Zn S rfl) fun f S => ?_; have aJ := Zta d (Zj Y).2.1; obtain ⟨cl, aK⟩ : ∃ c, (List.take (Za .u64).n (List.drop (((((Zh 18446744073709551616 v)).length : Int)).toNat * (Za .u64).n) cs0)) = c := ⟨_, rfl⟩; rw [aK] at aJ; obtain ⟨rfl, bh⟩ := aJ; refine rfa O F 2 rfl rfl S (ZL S rfl rfl ZP (Zj Y).1 (ltI k (Zj Y).2.2.1)) fun f S => rfa O F 3 rfl rfl S (ZY S rfl Zpa (ZJf S (j := 0) rfl G (ZCb d k) aK (ltN k (Zj Y).2.2.2) 0 [.int .u64 (X)] rfl zl)) fun f S => rfa O F 4 rfl rfl S (Zn S rfl) fun f S => rfa O F 5 rfl rfl S (Zn S rfl) fun f S => rfa O F 6 rfl rfl S (Zk S rfl rfl (Zna be)) fun f S => ?_; have aL := Zta d (Zj aa).2.1; obtain ⟨cm, aM⟩ : ∃ c, (List.take (Za .u64).n (List.drop ((bd).toNat * (Za .u64).n) cs0)) = c := ⟨_, rfl⟩
      rw [aM] at aL; obtain ⟨rfl, bi⟩ := aL; refine rfa O F 7 rfl rfl S (ZL S rfl rfl ZP (Zj aa).1 (ltI k (Zj aa).2.2.1)) fun f S => rfa O F 8 rfl rfl S (ZY S rfl Zpa (ZJf S (j := 0) rfl G (ZCb d k) aM (ltN k (Zj aa).2.2.2) 0 [.int .u64 (Z)] rfl zl)) fun f S => rfa O F 9 rfl rfl S (Zn S rfl) fun f S => rfa O F 10 rfl rfl S (Zn S rfl) fun f S => rfa O F 11 rfl rfl S (Zk S rfl rfl (Zna bf)) fun f S => ?_; obtain ⟨cn, am, bj⟩ := Zbb g (Zj al).2.1; obtain ⟨rfl, bk⟩ := bj; refine rfa O F 12 rfl rfl S (ZL S rfl rfl ZP (Zj al).1 (ltI (Zt g) (Zj al).2.2.1)) fun f S => rfa O F 13 rfl rfl S (ZY S rfl Zpa (S.view am)) fun f S => go1 O F 14 (nxc [3, 8, 13, 2, 7, 12, 0, 1, 4, 6, 9, 11, 5, 10] [] O rfl S rfl (Zo S [.int .u64 (X), .int .u64 (Z), .int .u64 (ak)] ZPj rfl rfl) (Zfl S.vin (show Rep.rel (Za .u64) _ [.int .u64 (X)] X from (Zp bh)) (show Rep.rel (Za .u64) _ [.int .u64 (Z)] Z from (Zp bi)) (show Rep.rel (Za .u64) _ [.int .u64 (ak)] ak from (Zp bk)) bg) ?_); rintro _ aN f w ab ⟨co, cp, rfl, bm, bn⟩ S; have d := ZH ab d; have am := Atm ab am; obtain ⟨rfl, bo⟩ := bm; obtain ⟨rfl, bp⟩ := bn; refine ⟨Zs, rfa O F 15 rfl rfl S (Zn S rfl) fun f S => rfa O F 16 rfl rfl S (ZN S rfl rfl) fun f S => rfa O F 17 rfl rfl S (ZN S rfl rfl) fun f S => go1 O F 18 (nva [0, 1, 2, 3, 4, 5, 6, 7, 8, 9, 10, 11, 12, 13, 14, 15, 16] [17] O rfl rfl S (Zja S rfl) fun f S => ⟨(py S rfl rfl (ZN S rfl rfl) Zs), go1 O F 19 (nva [0, 1, 2, 3, 4, 5, 6, 7, 8, 9, 10, 11, 12, 13, 14, 15, 16, 17, 18] [] O rfl rfl S (Zja S rfl) fun f S => ⟨Zs, Z9 O F ?_⟩)⟩)⟩
      have S := S.fr' (σ' := [(0, .slice (some ⟨a, off0, none⟩) (e) h), (1, .slice (some ⟨r, s, none⟩) o p), (5, .int .i64 ((((Zh 18446744073709551616 v)).length : Int))), (6, .int .u64 (aI.1)), (7, .int .u64 (aI.2))]) rfl; refine Zc (bc _ _ ?_); obtain ⟨bq, br, bs⟩ := Zb H; refine ZS (fun f w => ∃ (ac : Int) (an : Zd), ac = bq ∧ Zd.le aN an ∧ St 90 ⟨x, [a]⟩ m [(0, .slice (some ⟨a, off0, none⟩) (e) h), (1, .slice (some ⟨r, s, none⟩) o p), (6, .int .u64 (ac))] [Loc.box a A (pre0 ++ cs0 ++ post0)] an f w ∧ inR .u64 ac) (fun _ aO => ?_) ?_
      · have H := br; refine wp_block ?_; obtain ⟨cq, bt, aP⟩ := Zb H; refine Zma bt (fun bu f w => ∃ (q : Int) (l : Int) (ao : Zd), (q, l) = bu ∧ Zd.le aN ao ∧ St 90 ⟨x, [a]⟩ m [(0, .slice (some ⟨a, off0, none⟩) (e) h), (1, .slice (some ⟨r, s, none⟩) o p), (5, .int .i64 ((((Zh 18446744073709551616 v)).length : Int))), (6, .int .u64 (q)), (7, .int .u64 (l))] [Loc.box a A (pre0 ++ cs0 ++ post0)] ao f w ∧ inR .u64 q ∧ inR .u64 l) ⟨_, _, _, rfl, (leR _), (S.fr' rfl), bo, bp⟩ ?_; rintro _ f w st ⟨q, l, ao, hq, L, S, aQ, cr⟩ H ct bv aR; subst hq; have d := ZH L d; refine wp_block (Zg fun _ bw => ?_); obtain ⟨cu, bx, H⟩ := Zb H; obtain ⟨ap, aq, H⟩ := Zb H; obtain ⟨B, bz, H⟩ := Zb H; refine Zm (mv S rfl fun f S => mv S rfl fun f S => mv S rfl fun f S => ov S rfl (Zk S rfl rfl (Zna bx)) fun f S => ?_); have g := Zq (leT ab L) g; obtain ⟨cv, ar, bA⟩ := Zbb g (Zj aq).2.1; obtain ⟨rfl, bB⟩ := bA; refine ov S rfl (ZL S rfl rfl ZP (Zj aq).1 (ltI (Zt g) (Zj aq).2.2.1)) fun f S => ov S rfl (ZY S rfl Zpa (S.view ar)) fun f S => opc S rfl (Zo S [.int .u64 (q), .int .u64 (ap)] Zej rfl rfl) (Zfi S.vin (show Rep.rel (Za .u64) _ [.int .u64 (q)] q from (Zp aQ)) (show Rep.rel (Za .u64) _ [.int .u64 (ap)] ap from (Zp bB)) bz) ?_
        rintro _ bC f w D ⟨cw, cx, rfl, bD, bE⟩ S; have d := ZH D d; have ar := Atm D ar; obtain ⟨rfl, cy⟩ := bD; obtain ⟨rfl, cz⟩ := bE; refine mv S rfl fun f S => ov S rfl (ZN S rfl rfl) fun f S => ov S rfl (ZN S rfl rfl) fun f S => mw S rfl fun f S => mw S rfl fun f S => Zl (Zc (bw _ _ (Zg fun _ bF => Zg fun _ bG => ?_))); obtain ⟨bH, bI, bJ⟩ := Zb H; refine ZS (fun f w => ∃ (ad : Bool) (au : Zd), ad = bH ∧ Zd.le bC au ∧ St 90 ⟨x, [a]⟩ m [(0, .slice (some ⟨a, off0, none⟩) (e) h), (1, .slice (some ⟨r, s, none⟩) o p), (5, .int .i64 ((((Zh 18446744073709551616 v)).length : Int))), (6, .int .u64 (q)), (7, .int .u64 (l)), (67, .bool (ad))] [Loc.box a A (pre0 ++ cs0 ++ post0)] au f w) (fun _ av => ?_) ?_
        · have H := bI; rcases Zv (decide (B.1 < l)) with E | E
          · have H := Zw H E; refine Zm (mv S rfl fun f S => mv S rfl fun f S => ov S rfl (Zk S rfl rfl Zaa) fun f S => ?_); have S := S.bool (t := 53) rfl E; refine mv S rfl fun f S => opn S rfl rfl rfl rfl fun f S => opn S rfl rfl rfl rfl fun f S => opn S rfl rfl rfl rfl fun f S => opn S rfl rfl rfl rfl fun f S => Zwc S (ZHc S rfl rfl rfl zl) rfl zl fun f S => Zwc S (ZHc S rfl rfl rfl zl) rfl zl fun f S => Zwc S (ZHc S rfl rfl rfl zl) rfl zl fun f S => Zwc S (ZHc S rfl rfl rfl zl) rfl zl fun f S => Zwc S (ZHc S rfl rfl rfl zl) rfl zl fun f S => Zwc S (ZHc S rfl rfl rfl zl) rfl zl fun f S => Zwc S (ZHc S rfl rfl rfl zl) rfl zl fun f S => opn S rfl rfl rfl rfl fun f S => ov S rfl (ZO S (b := true) rfl rfl) fun f S => ?_; refine Zl ?_; have S := S.fr' (σ' := [(0, .slice (some ⟨a, off0, none⟩) (e) h), (1, .slice (some ⟨r, s, none⟩) o p), (5, .int .i64 ((((Zh 18446744073709551616 v)).length : Int))), (6, .int .u64 (q)), (7, .int .u64 (l)), (55, undef), (56, undef), (57, undef), (58, undef), (59, undef), (60, undef), (61, undef), (62, undef), (63, undef), (64, undef), (65, undef), (66, undef), (67, .bool (true))]) rfl; obtain rfl := Zi H; refine Zc (av _ _ ⟨_, _, rfl, (leR _), (S.fr' rfl)⟩)
          have H := Zx H E; rcases Zv (B.1 == l) with M | M
          · have H := Zw H M; obtain ⟨aw, bK, H⟩ := Zb H; obtain ⟨N, ae, H⟩ := Zb H; refine Zm (mv S rfl fun f S => mv S rfl fun f S => ov S rfl (Zk S rfl rfl Zaa) fun f S => ?_); have S := S.bool (t := 53) rfl E; refine mv S rfl fun f S => opy S rfl rfl rfl rfl (Zn S rfl) fun f S => opy S rfl rfl rfl rfl (Zn S rfl) fun f S => opy S rfl rfl rfl rfl (Zk S rfl rfl Z2) fun f S => ?_; have S := S.bool (t := 57) rfl M; refine opy S rfl rfl rfl rfl (Zn S rfl) fun f S => opy S rfl rfl rfl rfl (Zn S rfl) fun f S => opy S rfl rfl rfl rfl (Zn S rfl) fun f S => opy S rfl rfl rfl rfl (Zn S rfl) fun f S => opy S rfl rfl rfl rfl (Zk S rfl rfl (Zna bK)) fun f S => ?_; have aS := Zta d (Zj ae).2.1; obtain ⟨cA, aT⟩ : ∃ c, (List.take (Za .u64).n (List.drop ((aw).toNat * (Za .u64).n) cs0)) = c := ⟨_, rfl⟩; rw [aT] at aS; obtain ⟨rfl, cB⟩ := aS; refine opy S rfl rfl rfl rfl (ZL S rfl rfl ZP (Zj ae).1 (ltI k (Zj ae).2.2.1)) fun f S => opy S rfl rfl rfl rfl (ZY S rfl Zpa (ZJf S (j := 0) rfl G (ZCb d k) aT (ltN k (Zj ae).2.2.2) 0 [.int .u64 (N)] rfl zl)) fun f S => opy S rfl rfl rfl rfl (Zk S rfl rfl ZHd) fun f S => opy S rfl rfl rfl rfl (ZO S (b := true) rfl rfl) fun f S => ov S rfl (ZO S (b := false) rfl rfl) fun f S => Zl ?_; have S := S.fr' (σ' := [(0, .slice (some ⟨a, off0, none⟩) (e) h), (1, .slice (some ⟨r, s, none⟩) o p), (5, .int .i64 ((((Zh 18446744073709551616 v)).length : Int))), (6, .int .u64 (q)), (7, .int .u64 (l)), (55, .int .u64 (B.1)), (56, .int .u64 (l)), (57, .bool (true)), (58, .bool (true)), (59, .int .u64 (B.2)), (60, .slice (some ⟨a, off0, none⟩) (e) h), (61, .int .i64 ((((Zh 18446744073709551616 v)).length : Int))), (62, .int .i64 (aw)), (63, .pointer (some ⟨a, off0 + (aw).toNat * 1, none⟩)), (64, .int .u64 (N)), (65, .bool (decide (B.2 ≤ N))), (66, .bool (decide (B.2 ≤ N))), (67, .bool (decide (B.2 ≤ N)))]) rfl
            obtain rfl := Zi H; refine Zc (av _ _ ⟨_, _, rfl, (leR _), (S.fr' rfl)⟩)
          have H := Zx H M; refine Zm (mv S rfl fun f S => mv S rfl fun f S => ov S rfl (Zk S rfl rfl Zaa) fun f S => ?_); have S := S.bool (t := 53) rfl E; refine mv S rfl fun f S => opy S rfl rfl rfl rfl (Zn S rfl) fun f S => opy S rfl rfl rfl rfl (Zn S rfl) fun f S => opy S rfl rfl rfl rfl (Zk S rfl rfl Z2) fun f S => ?_; have S := S.bool (t := 57) rfl M; refine opy S rfl rfl rfl rfl (Zn S rfl) fun f S => opn S rfl rfl rfl rfl fun f S => opn S rfl rfl rfl rfl fun f S => opn S rfl rfl rfl rfl fun f S => opn S rfl rfl rfl rfl fun f S => opn S rfl rfl rfl rfl fun f S => opn S rfl rfl rfl rfl fun f S => opn S rfl rfl rfl rfl fun f S => opy S rfl rfl rfl rfl (ZO S (b := false) rfl rfl) fun f S => ov S rfl (ZO S (b := false) rfl rfl) fun f S => Zl ?_; have S := S.fr' (σ' := [(0, .slice (some ⟨a, off0, none⟩) (e) h), (1, .slice (some ⟨r, s, none⟩) o p), (5, .int .i64 ((((Zh 18446744073709551616 v)).length : Int))), (6, .int .u64 (q)), (7, .int .u64 (l)), (55, .int .u64 (B.1)), (56, .int .u64 (l)), (57, .bool (false)), (58, .bool (false)), (59, undef), (60, undef), (61, undef), (62, undef), (63, undef), (64, undef), (65, undef), (66, .bool (false)), (67, .bool (false))]) rfl; obtain rfl := Zi H; refine Zc (av _ _ ⟨_, _, rfl, (leR _), (S.fr' rfl)⟩)
        rintro f w ⟨ad, au, hq, P, S⟩; subst hq; have H := bJ; have d := ZH P d; refine Zc (bG _ _ ?_); rcases Zv (ad) with Q | Q
        · have H := Zw H Q; refine ZB S rfl Q (wp_exit (ZT (Zgh rfl ?_))); obtain rfl := Zi H; have hq := aR _ rfl; subst hq; have H := aP; refine ZT (Zga ?_); obtain rfl := Zi H; refine Zc (aO _ _ ⟨_, _, rfl, (leT (leT (leT (leR _) L) D) P), (S.fr' rfl), aQ⟩)
        have H := Zx H Q; refine ZC S rfl Q (wp_skip (Zc (bF _ _ (sr (mv S rfl fun f S => ov S rfl (Zk S rfl rfl Z9c) fun f S => mw S rfl fun f S => oe (sr (mw S rfl fun f S => oe (Zg fun _ bL => ?_)))))))); obtain ⟨cC, bM, H⟩ := Zb H; obtain ⟨bN, ax, H⟩ := Zb H; obtain ⟨bO, aU, H⟩ := Zb H; refine Zm (mv S rfl fun f S => mv S rfl fun f S => mv S rfl fun f S => ov S rfl (Zk S rfl rfl (Zna bM)) fun f S => ?_); have g := Zq (leT D P) g; obtain ⟨cD, bP, bQ⟩ := Zbb g (Zj ax).2.1; obtain ⟨rfl, cE⟩ := bQ; refine ov S rfl (ZL S rfl rfl ZP (Zj ax).1 (ltI (Zt g) (Zj ax).2.2.1)) fun f S => ov S rfl (ZY S rfl Zpa (S.view bP)) fun f S => ov S rfl (Zee S [.int .u64 (l), .int .u64 (bN), .int .u64 ((0 : Int))] (ZOf ZLf aU) rfl rfl) fun f S => mv S rfl fun f S => ov S rfl (ZN S rfl rfl) fun f S => ov S rfl (ZN S rfl rfl) fun f S => mw S rfl fun f S => mw S rfl fun f S => Zl (Zc (bL _ _ (sr (mv S rfl fun f S => ov S rfl (Zk S rfl rfl ZIa) fun f S => oe ?_)))); rcases Zv (decide ((0 : Int) < bO.2)) with R | R
        · have H := Zw H R; refine ZB S rfl R (wp_exit (Zgh rfl ?_)); obtain rfl := Zi H; have hq := aR _ rfl; subst hq; have H := aP; refine ZT (Zga ?_); obtain rfl := Zi H; refine Zc (aO _ _ ⟨_, _, rfl, (leT (leT (leT (leR _) L) D) P), (S.fr' rfl), (Zua _ _)⟩)
        have H := Zx H R; refine ZC S rfl R (wp_skip (Zia ?_)); obtain rfl := Zi H; refine bv _ rfl _ _ ⟨_, _, _, rfl, (leT (leT L D) P), (S.fr' rfl), (Zua _ _), (Zqh aU)⟩
      rintro f w ⟨ac, an, hq, aV, S, bR⟩; subst hq; have H := bs; have d := ZH aV d; obtain rfl := Zi H; refine Zc (aH _ _ ⟨_, _, rfl, (leT (leT (leR _) ab) aV), (S.fr' rfl), bR⟩)
    have H := Zx H J; refine ZC S rfl J (wp_skip ?_); obtain rfl := Zi H; refine Zc (aH _ _ ⟨_, _, rfl, (leR _), (S.fr' rfl), (by decide)⟩)
  rintro f w ⟨W, I, hq, aW, S, bS⟩; subst hq; have H := bb; have d := ZH aW d; refine Zc (a3 _ _ (Zg fun _ bT => ?_)); obtain ⟨bU, bV, bW⟩ := Zb H; refine ZS (fun f w => ∃ (af : (List Int)) (T : Int) (ay : List Value) (ag : Zd), (af, T) = bU ∧ Zd.le I ag ∧ St 90 ⟨x, [a]⟩ m [(6, .int .u64 (T))] [Loc.box a A (pre0 ++ ay ++ post0)] ag f w ∧ Rep.rels (Za .u64) ag ay af ∧ e = af.length ∧ inR .u64 T) (fun _ bX => ?_) ?_
  · have H := bV; refine wp_block ?_; obtain ⟨cF, bY, bZ⟩ := Zb H; refine Zma bY (fun b1 f w => ∃ (ah : (List Int)) (C : Int) (az : List Value) (ai : Zd), (ah, C) = b1 ∧ Zd.le I ai ∧ St 90 ⟨x, [a]⟩ m [(0, .slice (some ⟨a, off0, none⟩) (e) h), (1, .slice (some ⟨r, s, none⟩) o p), (6, .int .u64 (C))] [Loc.box a A (pre0 ++ az ++ post0)] ai f w ∧ Rep.rels (Za .u64) ai az ah ∧ e = ah.length ∧ inR .u64 C) ⟨_, _, cs0, _, rfl, (leR _), (S.fr' rfl), d, k, bS⟩ ?_; rintro _ f w st ⟨ah, C, az, ai, hq, aA, S, aB, b2, aX⟩ H cG b3 b4; subst hq; refine Zg fun _ b5 => Zg fun _ b6 => ?_; obtain ⟨b7, b8, H⟩ := Zb H; refine Zm (mv S rfl fun f S => mv S rfl fun f S => mv S rfl fun f S => ?_); have g := Zq (leT aW aA) g; refine ZNk S wn rfl zl (Zo S [.slice (some ⟨a, off0, none⟩) (e) h, .slice (some ⟨r, s, none⟩) o p, .int .u64 (C)] k_en197 rfl rfl) (i := 0) rfl rfl (take_c S.vin (S.boxAt (j := 0) rfl).1 G (S.boxAt (j := 0) rfl).2 b2 a2 aB g (show Rep.rel (Za .u64) _ [.int .u64 (C)] C from (Zp aX)) b8) ?_; rintro _ cH f w aC ⟨⟨cI, rfl, b9⟩, ca, aD, cb, aY, aZ⟩ hSf; have aB := ZH aC aB; have S := hSf (Loc.box a A (pre0 ++ aD ++ post0)) rfl cb ca; obtain rfl := b9; refine ov S rfl (Zyc S rfl) fun f S => Zl (Zc (b6 _ _ ?_)); rcases Zv (!(b7.1)) with U | U
    · have H := Zw H U; refine ZB S rfl U (wp_skip (Zc (b5 _ _ (wp_block (Zm (mv S rfl fun f S => ov S rfl (Zk S rfl rfl Z9c) fun f S => mw S rfl fun f S => Zl (Zia ?_))))))); obtain rfl := Zi H; refine b3 _ rfl _ _ ⟨_, _, aD, _, rfl, (leT aA aC), (S.fr' rfl), aZ, aY, (Zua _ _)⟩
    have H := Zx H U; refine ZC S rfl U (wp_exit (ZT ?_)); obtain rfl := Zi H; have hq := b4 _ rfl; subst hq; have H := bZ; refine ZT (Zga ?_); obtain rfl := Zi H; refine Zc (bX _ _ ⟨_, _, aD, _, rfl, (leT (leT (leR _) aA) aC), (S.fr' rfl), aZ, aY, aX⟩)
  rintro f w ⟨af, T, ay, ag, hq, cJ, S, cc, cd, ce⟩; subst hq; have H := bW; refine Zc (bT _ _ (sr (mv S rfl fun f S => mw S rfl fun f S => oe (wp_ret ?_)))); obtain rfl := Zi H; refine Z8h S (ZM rfl (ZD S rfl)) ⟨⟨[.int .u64 (T)], rfl, (Zp ce)⟩, (S.boxAt (j := 0) rfl).2, _, (S.boxAt (j := 0) rfl).1, cd, cc⟩
theorem digit_c {d : World} {b : Zd} (hv : VIn b d) {a off0 c e : Nat} {f : TypeId} {pre0 cs0 post0 : List Value} {u : (List Int)} (j : d.heap[a]? = some (.cells (pre0 ++ cs0 ++ post0).toArray f (0, 0))) (k : off0 = pre0.length) (l : b a = none) (m : c = u.length) (n : c ≤ e ∧ e ≤ maxLen) (g : Rep.rels (Za .u64) b cs0 u) {h : List Value} {v : Nat} (o : Rep.rel Zy b h v) {z : Int × (List Int)} (hm : Zgf u v = some z) :
    RetL Tryz.prog 178 #[Value.slice (some ⟨a, off0, none⟩) c e, Zy.val h] d b [a] (fun y v' w' => (∃ i, y = (Za .u64).val i ∧ (Za .u64).rel v' i z.1) ∧ v' a = none ∧ ∃ cs, w'.heap[a]? = some (.cells (pre0 ++ cs ++ post0).toArray f (0, 0)) ∧ c = z.2.length ∧ Rep.rels (Za .u64) v' cs z.2) :=
  digit_w hv j k l m n g o (Zkm (ZLi g) hm)
theorem left_w {I : World} {o : Zd} (hv : VIn o I) {c0 : List Value} {a : Nat} (g : Rep.rel Zy o c0 a) {c1 : List Value} {n : Int} (p1 : Rep.rel (Za .i64) o c1 n) {z : Nat} (H : Zag a n = some z) : Ret Tryz.prog 177 #[Zy.val c0, (Za .i64).val c1] I o (fun y v' => ∃ r0, y = Zy.val r0 ∧ Zy.rel v' r0 z) := by
  obtain ⟨W, J, L, rfl⟩ := ZZ g; obtain ⟨rfl, r4⟩ := p1; refine ZV (K := 58) (args := [.slice W J L, .int .i64 (n)]) hv Tryz.func177 rfl rfl zl fun f S => ?_; unfold Zag at H; refine sr (mw S rfl fun f S => oe (Zg fun _ av => Zg fun _ aw => ?_)); obtain ⟨ax, ay, az⟩ := Zb H; refine ZS (fun f w => ∃ (X : Bool) (v : Zd), X = ax ∧ Zd.le o v ∧ St 58 I o [(0, .slice W J L), (1, .int .i64 (n)), (14, .bool (X))] [] v f w) (fun _ ag => ?_) ?_
  · have H := ay; rcases Zv (((((Zh 18446744073709551616 a)).length : Int)) == ((0 : Int))) with M | M
    · have H := Zw H M; refine Zm (mv S rfl fun f S => ov S rfl (ZF S (Zt g) rfl rfl ZP) fun f S => ov S rfl (Zk S rfl rfl Z2) fun f S => ?_); have S := S.bool (t := 10) rfl M; refine mv S rfl fun f S => opn S rfl rfl rfl rfl fun f S => opn S rfl rfl rfl rfl fun f S => ov S rfl (ZO S (b := true) rfl rfl) fun f S => Zl ?_; obtain rfl := Zi H; refine Zc (ag _ _ ⟨_, _, rfl, (leR _), (S.fr' rfl)⟩)
    have H := Zx H M; refine Zm (mv S rfl fun f S => ov S rfl (ZF S (Zt g) rfl rfl ZP) fun f S => ov S rfl (Zk S rfl rfl Z2) fun f S => ?_); have S := S.bool (t := 10) rfl M; refine mv S rfl fun f S => opy S rfl rfl rfl rfl (Zn S rfl) fun f S => opy S rfl rfl rfl rfl (Zk S rfl rfl Z2) fun f S => ov S rfl (ZO S (b := false) rfl rfl) fun f S => Zl ?_; obtain rfl := Zi H; refine Zc (ag _ _ ⟨_, _, rfl, (leR _), (S.fr' rfl)⟩)
  rintro f w ⟨X, v, hq, ah, S⟩; subst hq; have H := az; refine Zc (aw _ _ ?_); rcases Zv (X) with N | N
  · have H := Zw H N; refine ZB S rfl N (sr (mv S rfl fun f S => mw S rfl fun f S => oe (wp_ret (ZQ ?_)))); obtain rfl := Zi H; have g := Zq ah g; refine ZA S (ZM rfl (ZD S rfl)) ⟨[.slice W J L], rfl, g⟩
  have H := Zx H N; refine ZC S rfl N (wp_skip (Zc (av _ _ (Zg fun _ aA => ?_)))); obtain ⟨bo, aB, H⟩ := Zb H; obtain ⟨bp, aC, H⟩ := Zb H; obtain ⟨B, aD, H⟩ := Zb H; obtain ⟨bq, Y, H⟩ := Zb H; refine Zm (mv S rfl fun f S => ?_); have g := Zq ah g; refine ov S rfl (ZF S (Zt g) rfl rfl ZP) fun f S => mv S rfl fun f S => ov S rfl (Zk S rfl rfl (ZKb aB)) fun f S => ov S rfl (Zk S rfl rfl (Z5 aC)) fun f S => ov S rfl (Zk S rfl rfl (Z5 aD)) fun f S => ?_; obtain ⟨ai, aj⟩ : ∃ c : List Value, c = (List.replicate (B).toNat [.int .u64 ((0 : Int))]).flatten := ⟨_, rfl⟩; obtain ⟨aE, w, aF, S⟩ := ZQb Zlc S (l := B) (c := B) (Z6 Y).1 (Z6 Y).2.1 (Z6 Y).2.2.1 (Z6 Y).2.2.2 aj; have aG : Rep.rels (Za .u64) v ai (List.replicate (B).toNat ((0 : Int))) := by rw [aj]; exact ZHb (show Rep.rel (Za .u64) _ [.int .u64 ((0 : Int))] _ from (Zp (by decide))) _
  refine Zka wn rfl zl (aF rfl rfl) S fun f S => mw S rfl fun f S => Zl (Zc (aA _ _ (Zg fun _ aH => sr (mv S rfl fun f S => ov S rfl (ZF S (Zt g) rfl rfl ZP) fun f S => mv S rfl fun f S => oe ?_)))); obtain ⟨aI, aJ, aK⟩ := Zb H; refine ZS (fun f w => ∃ (C : (List Int)) (P : Option Nat) (D : Nat) (Q : Nat) (ac : List Value) (Z : Zd), C = aI ∧ Zd.le v Z ∧ St 58 I o [(5, .slice (mkA P) (D) Q)] [Loc.own P 211 1 (D) Q ac] Z f w ∧ Rep.rels (Za .u64) Z ac C ∧ D = C.length) (fun _ aL => ?_) ?_
  · have H := aJ; refine wp_block ?_; obtain ⟨br, aM, aN⟩ := Zb H; refine Zma aM (fun aO f w => ∃ (p : (List Int)) (E : Int) (aa : Option Nat) (m : Nat) (G : Nat) (e : List Value) (q : Zd), (p, E) = aO ∧ Zd.le v q ∧ St 58 I o [(1, .int .i64 (n)), (5, .slice (mkA aa) (m) G), (23, .slice W J L), (24, .int .i64 ((((Zh 18446744073709551616 a)).length : Int))), (25, .int .i64 (E))] [Loc.own aa 211 1 (m) G e] q f w ∧ Rep.rels (Za .u64) q e p ∧ m = p.length ∧ inR .i64 E) ⟨_, _, some aE, (B).toNat, (B).toNat, ai, _, rfl, (leR _), (S.fr' rfl), aG, (Zsb (x := (0 : Int))), (by decide)⟩ ?_; rintro _ f w st ⟨p, E, aa, m, G, e, q, hq, ad, S, ab, s, bs⟩ H bt aP aQ; subst hq; refine sr (ov S rfl (Zk S rfl rfl Zaa) fun f S => oe (Zg fun _ aR => ?_)); rcases Zv (decide (E < (((Zh 18446744073709551616 a)).length : Int))) with R | R
    · have H := Zw H R; refine ZB S rfl R (wp_skip (Zc (aR _ _ (Zg fun _ aS => wp_block (Zg fun _ aT => ?_))))); obtain ⟨bu, ae, H⟩ := Zb H; refine Zm (mv S rfl fun f S => ?_); have g := Zq ad g; obtain ⟨_, aU, aV, bv, rfl, aW, aX⟩ := Zea g (Zj ae).2.1; obtain ⟨rfl, aY⟩ := aX; refine ov S rfl (ZL S rfl rfl ZP (Zj ae).1 (ltI (Zt g) (Zj ae).2.2.1)) fun f S => ov S rfl (ZY S rfl Zpa (S.view aW)) fun f S => mw S rfl fun f S => mw S rfl fun f S => Zl (Zc (aT _ _ (Zg fun _ aZ => ?_))); obtain ⟨bw, a0, H⟩ := Zb H; obtain ⟨d, a1, H⟩ := Zb H; obtain ⟨h, T, H⟩ := Zb H; obtain ⟨bx, a2, H⟩ := Zb H; obtain ⟨k, a3, H⟩ := Zb H; obtain ⟨bz, U, H⟩ := Zb H; refine Zqa (fl := #[true, true, true, true, true, true, true, true, true, true, true, true, true, false]) Zra (by kernel_rfl) S ?_; intro ops O F w S; refine rfa O F 0 rfl rfl S (Zn S rfl) fun f S => rfa O F 1 rfl rfl S (Zn S rfl) fun f S => rfa O F 2 rfl rfl S (Zn S rfl) fun f S => rfa O F 3 rfl rfl S (Zk S rfl rfl (ZKb a0)) fun f S => rfa O F 4 rfl rfl S (Zk S rfl rfl (Z5 a1)) fun f S => ?_; obtain ⟨ak, rfl⟩ := Zub S (j := 0) rfl (ZBb s (Zj T).2.2.2); have al := Zta ab (Zj T).2.1; obtain ⟨bA, am⟩ : ∃ c, (List.take (Za .u64).n (List.drop ((d).toNat * (Za .u64).n) e)) = c := ⟨_, rfl⟩
      rw [am] at al; obtain ⟨rfl, bB⟩ := al; refine rfa O F 5 rfl rfl S (ZL S rfl rfl ZP (Zj T).1 (ltI s (Zj T).2.2.1)) fun f S => rfa O F 6 rfl rfl S (ZY S rfl Zpa (Z6b S (j := 0) rfl am (ltN s (Zj T).2.2.2) 0 [.int .u64 (h)] rfl zl)) fun f S => rfa O F 7 rfl rfl S (Zn S rfl) fun f S => rfa O F 8 rfl rfl S (Zn S rfl) fun f S => rfa O F 9 rfl rfl S (Zk S rfl rfl (Zzc a2)) fun f S => rfa O F 10 rfl rfl S (Zk S rfl rfl (Zud a3)) fun f S => rfa O F 11 rfl rfl S (Zk S rfl rfl Zze) fun f S => ?_; have an := Zta ab (Zj U).2.1; obtain ⟨bC, a4⟩ : ∃ c, (List.take (Za .u64).n (List.drop ((d).toNat * (Za .u64).n) e)) = c := ⟨_, rfl⟩; rw [a4] at an; obtain ⟨rfl, bD⟩ := an; refine rfa O F 12 rfl rfl S (ZL S rfl rfl ZP (Zj U).1 (ltI s (Zj U).2.2.1)) fun f S => go1 O F 13 ?_; obtain ⟨w, a5, S⟩ := Ztb S Zpa (off := 0 + (d).toNat * 1) (z := .int .u64 (orI .u64 h k)) (cs := [.int .u64 (orI .u64 h k)]) (Zdb rfl) rfl (i := 0) rfl (Zxb S (j := 0) rfl (ltN s (Zj U).2.2.2)) (by first | rfl | simp [ZFa]); have ao : Rep.rels (Za .u64) q (List.take (0 + (d).toNat * 1) e ++ [Value.int IntKind.u64 (orI .u64 h k)] ++ List.drop (0 + (d).toNat * 1 + 1) e) (p.set (d).toNat (orI .u64 h k)) := Zjb ab (Zj U).2.2.2 (show Rep.rel (Za .u64) q [.int .u64 (orI .u64 h k)] _ from (Zp (Zua _ _))) rfl rfl
      have af : m = (p.set (d).toNat (orI .u64 h k)).length := Zlb s; refine nxs [0, 1, 2, 3, 4, 5, 6, 7, 8, 9, 10, 11, 12] [] O rfl rfl (a5 rfl rfl) (⟨Zs, Z9 O F (Zc (aZ _ _ ?_))⟩); obtain ⟨bE, a6, H⟩ := Zb H; obtain ⟨bF, a7, H⟩ := Zb H; obtain ⟨r, a8, H⟩ := Zb H; obtain ⟨bG, a9, H⟩ := Zb H; obtain ⟨bH, ba, H⟩ := Zb H; obtain ⟨u, ap, H⟩ := Zb H; obtain ⟨bI, V, H⟩ := Zb H; refine Zm (mv S rfl fun f S => mv S rfl fun f S => mv S rfl fun f S => ov S rfl (Zk S rfl rfl (ZKb a6)) fun f S => ov S rfl (Zk S rfl rfl (Z5 a7)) fun f S => ov S rfl (Zk S rfl rfl (Z5 a8)) fun f S => mv S rfl fun f S => mv S rfl fun f S => ov S rfl (Zk S rfl rfl (Zzc a9)) fun f S => ov S rfl (Zk S rfl rfl (Zna ba)) fun f S => ov S rfl (Zk S rfl rfl (ZAb ap)) fun f S => ?_); have aq := Zta ao (Zj V).2.1; obtain ⟨bJ, bb⟩ : ∃ c, (List.take (Za .u64).n (List.drop ((r).toNat * (Za .u64).n) (List.take (0 + (d).toNat * 1) e ++ [Value.int IntKind.u64 (orI .u64 h k)] ++ List.drop (0 + (d).toNat * 1 + 1) e))) = c := ⟨_, rfl⟩; rw [bb] at aq; obtain ⟨rfl, bK⟩ := aq; refine ov S rfl (ZL S rfl rfl ZP (Zj V).1 (ltI af (Zj V).2.2.1)) fun f S => ?_; obtain ⟨w, bc, S⟩ := Ztb S Zpa (off := 0 + (r).toNat * 1) (z := .int .u64 (u)) (cs := [.int .u64 (u)]) (Zdb rfl) rfl (i := 0) rfl (Zxb S (j := 0) rfl (ltN af (Zj V).2.2.2)) (by first | rfl | simp [ZFa])
      have bd : Rep.rels (Za .u64) q (List.take (0 + (r).toNat * 1) ((List.take (0 + (d).toNat * 1) e ++ [Value.int IntKind.u64 (orI .u64 h k)] ++ List.drop (0 + (d).toNat * 1 + 1) e)) ++ [Value.int IntKind.u64 (u)] ++ List.drop (0 + (r).toNat * 1 + 1) ((List.take (0 + (d).toNat * 1) e ++ [Value.int IntKind.u64 (orI .u64 h k)] ++ List.drop (0 + (d).toNat * 1 + 1) e))) (((p.set (d).toNat (orI .u64 h k))).set (r).toNat u) := Zjb ao (Zj V).2.2.2 (show Rep.rel (Za .u64) q [.int .u64 (u)] _ from (Zp (ZCd aY ap))) rfl rfl; have be : m = (((p.set (d).toNat (orI .u64 h k))).set (r).toNat u).length := Zlb af; refine ZX wn rfl (bc rfl rfl) (Zl ?_); have S := S.fr' (σ' := [(1, .int .i64 (n)), (5, .slice (mkA (some ak)) (m) G), (23, .slice (some ⟨aU, aV, none⟩) J L), (24, .int .i64 ((((Zh 18446744073709551616 a)).length : Int))), (25, .int .i64 (E))]) rfl; refine Zia (Zc (aS _ _ ?_)); obtain ⟨bL, ar, H⟩ := Zb H; refine Zm (ov S rfl (Zk S rfl rfl (Z5 ar)) fun f S => mv S rfl fun f S => Zl ?_); obtain rfl := Zi H; refine aP _ rfl _ _ ⟨_, _, some ak, m, G, (List.take (0 + (r).toNat * 1) ((List.take (0 + (d).toNat * 1) e ++ [Value.int IntKind.u64 (orI .u64 h k)] ++ List.drop (0 + (d).toNat * 1 + 1) e)) ++ [Value.int IntKind.u64 (u)] ++ List.drop (0 + (r).toNat * 1 + 1) ((List.take (0 + (d).toNat * 1) e ++ [Value.int IntKind.u64 (orI .u64 h k)] ++ List.drop (0 + (d).toNat * 1 + 1) e))), _, rfl, ad, (S.fr' rfl), bd, be, (Z1 ar).2⟩
    have H := Zx H R; refine ZC S rfl R (wp_exit (ZT ?_)); obtain rfl := Zi H; have hq := aQ _ rfl; subst hq; have H := aN; refine ZT (Zga ?_); obtain rfl := Zi H; refine Zc (aL _ _ ⟨_, aa, m, G, e, _, rfl, (leT (leR _) ad), (S.fr' rfl), ab, s⟩)
  rintro f w ⟨C, P, D, Q, ac, Z, hq, bM, S, bf, bg⟩; subst hq; have H := aK; refine Zc (aH _ _ (Zg fun _ bh => ?_)); obtain ⟨bN, bi, H⟩ := Zb H; refine Zm (mv S rfl fun f S => ?_); obtain ⟨bO, bP, S, bj⟩ := S.pubSlice (i := 0) (A := (Za .u64)) (l := C) (ℓ' := []) rfl rfl bg bf rfl; refine opc S rfl (Zo S [.slice (mkA P) (D) Q] Z3c rfl rfl) (Zdd S.vin (show Rep.rel (Zu (Za .u64)) _ [.slice (mkA P) (D) Q] C from bj) bi) ?_; rintro _ bQ f w bR ⟨bS, rfl, au⟩ S; obtain ⟨bk, bm, bn, rfl⟩ := ZZ au; refine mw S rfl fun f S => Zl (Zc (bh _ _ (wp_ret ?_))); obtain rfl := Zi H; refine ZA S (ZM rfl (ZD S rfl)) ⟨[.slice bk bm bn], rfl, au⟩
theorem ZTg {c : World} {b : Zd} (hv : VIn b c) {d : List Value} {a : Nat} (g : Rep.rel Zy b d a) {e : List Value} {n : Int} (h : Rep.rel (Za .i64) b e n) {z : Nat} (hm : Zdc a n = some z) :
    Ret Tryz.prog 177 #[Zy.val d, (Za .i64).val e] c b (fun y v' => ∃ f, y = Zy.val f ∧ Zy.rel v' f z) :=
  left_w hv g h (Zbm hm)
theorem right_w {C : World} {g : Zd} (hv : VIn g C) {c0 : List Value} {a : Nat} (h : Rep.rel Zy g c0 a) {c1 : List Value} {n : Int} (p1 : Rep.rel (Za .i64) g c1 n) {z : Nat} (H : ZMf a n = some z) : Ret Tryz.prog 179 #[Zy.val c0, (Za .i64).val c1] C g (fun y v' => ∃ r0, y = Zy.val r0 ∧ Zy.rel v' r0 z) := by
  obtain ⟨q1, P, Q, rfl⟩ := ZZ h; obtain ⟨rfl, r4⟩ := p1; refine ZV (K := 65) (args := [.slice q1 P Q, .int .i64 (n)]) hv Tryz.func179 rfl rfl zl fun f S => ?_; unfold ZMf at H; refine sr (mw S rfl fun f S => oe (Zg fun _ ax => Zg fun _ ay => ?_)); obtain ⟨az, aA, H⟩ := Zb H; refine Zm (mv S rfl fun f S => ov S rfl (Zk S rfl rfl (ZKb aA)) fun f S => mv S rfl fun f S => ov S rfl (ZF S (Zt h) rfl rfl ZP) fun f S => ov S rfl (Zk S rfl rfl Zhb) fun f S => Zl (Zc (ay _ _ ?_))); rcases Zv (decide ((((Zh 18446744073709551616 a)).length : Int) ≤ az)) with D | D
  · have H := Zw H D; refine ZB S rfl D (sr (mw S rfl fun f S => oe (wp_ret (ZQ ?_)))); obtain rfl := Zi H; refine ZA S (ZM rfl (ZD S rfl)) ⟨[.slice none 0 0], rfl, (ZDe _)⟩
  have H := Zx H D; refine ZC S rfl D (wp_skip (Zc (ax _ _ (Zg fun _ aB => ?_)))); obtain ⟨bx, aC, H⟩ := Zb H; obtain ⟨k, aD, H⟩ := Zb H; obtain ⟨bz, R, H⟩ := Zb H; refine Zm (mv S rfl fun f S => ov S rfl (ZF S (Zt h) rfl rfl ZP) fun f S => mv S rfl fun f S => ov S rfl (Zk S rfl rfl (ZKb aC)) fun f S => ov S rfl (Zk S rfl rfl (Zna aD)) fun f S => ?_); obtain ⟨ai, aj⟩ : ∃ c : List Value, c = (List.replicate (k).toNat [.int .u64 ((0 : Int))]).flatten := ⟨_, rfl⟩; obtain ⟨aE, w, aF, S⟩ := ZQb Zlc S (l := k) (c := k) (Z6 R).1 (Z6 R).2.1 (Z6 R).2.2.1 (Z6 R).2.2.2 aj; have aG : Rep.rels (Za .u64) g ai (List.replicate (k).toNat ((0 : Int))) := by rw [aj]; exact ZHb (show Rep.rel (Za .u64) _ [.int .u64 ((0 : Int))] _ from (Zp (by decide))) _
  refine Zka wn rfl zl (aF rfl rfl) S fun f S => mw S rfl fun f S => Zl (Zc (aB _ _ (Zg fun _ aH => sr (mv S rfl fun f S => ov S rfl (ZF S (Zsb (x := (0 : Int))) rfl rfl ZP) fun f S => mv S rfl fun f S => oe ?_)))); obtain ⟨aI, aJ, aK⟩ := Zb H; refine ZS (fun f w => ∃ (t : (List Int)) (E : Option Nat) (u : Nat) (G : Nat) (ac : List Value) (T : Zd), t = aI ∧ Zd.le g T ∧ St 65 C g [(5, .slice (mkA E) (u) G)] [Loc.own E 211 1 (u) G ac] T f w ∧ Rep.rels (Za .u64) T ac t ∧ u = t.length) (fun _ aL => ?_) ?_
  · have H := aJ; refine wp_block ?_; obtain ⟨bA, aM, aN⟩ := Zb H; refine Zma aM (fun aO f w => ∃ (p : (List Int)) (b : Int) (U : Option Nat) (m : Nat) (r : Nat) (d : List Value) (o : Zd), (p, b) = aO ∧ Zd.le g o ∧ St 65 C g [(0, .slice q1 P Q), (1, .int .i64 (n)), (5, .slice (mkA U) (m) r), (19, .int .i64 ((((List.replicate (k).toNat ((0 : Int)))).length : Int))), (20, .int .i64 (b))] [Loc.own U 211 1 (m) r d] o f w ∧ Rep.rels (Za .u64) o d p ∧ m = p.length ∧ inR .i64 b) ⟨_, _, some aE, (k).toNat, (k).toNat, ai, _, rfl, (leR _), (S.fr' rfl), aG, (Zsb (x := (0 : Int))), (by decide)⟩ ?_; rintro _ f w st ⟨p, b, U, m, r, d, o, hq, ad, S, ae, I, bB⟩ H bC aP aQ; subst hq; refine sr (ov S rfl (Zk S rfl rfl Zaa) fun f S => oe (Zg fun _ aR => ?_)); rcases Zv (decide (b < (((List.replicate (k).toNat ((0 : Int)))).length : Int))) with J | J
    · have H := Zw H J; refine ZB S rfl J (wp_skip (Zc (aR _ _ (Zg fun _ aS => wp_block (sr (mv S rfl fun f S => mw S rfl fun f S => oe (Zg fun _ aT => ?_))))))); obtain ⟨bD, aU, H⟩ := Zb H; obtain ⟨bE, aV, H⟩ := Zb H; obtain ⟨bF, af, H⟩ := Zb H; obtain ⟨bG, aW, H⟩ := Zb H; obtain ⟨e, ak, H⟩ := Zb H; obtain ⟨bH, v, H⟩ := Zb H; refine Zm (mv S rfl fun f S => mv S rfl fun f S => mv S rfl fun f S => mv S rfl fun f S => mv S rfl fun f S => ov S rfl (Zk S rfl rfl (ZKb aU)) fun f S => ov S rfl (Zk S rfl rfl (Z5 aV)) fun f S => ?_); have h := Zq ad h; obtain ⟨_, al, am, bI, rfl, aX, aY⟩ := Zea h (Zj af).2.1; obtain ⟨rfl, aZ⟩ := aY; refine ov S rfl (ZL S rfl rfl ZP (Zj af).1 (ltI (Zt h) (Zj af).2.2.1)) fun f S => ov S rfl (ZY S rfl Zpa (S.view aX)) fun f S => mv S rfl fun f S => ov S rfl (Zk S rfl rfl (Zzc aW)) fun f S => ov S rfl (Zk S rfl rfl (ZAb ak)) fun f S => ?_; obtain ⟨ag, rfl⟩ := Zub S (j := 0) rfl (ZBb I (Zj v).2.2.2); have an := Zta ae (Zj v).2.1; obtain ⟨bJ, a0⟩ : ∃ c, (List.take (Za .u64).n (List.drop ((b).toNat * (Za .u64).n) d)) = c := ⟨_, rfl⟩; rw [a0] at an; obtain ⟨rfl, bK⟩ := an; refine ov S rfl (ZL S rfl rfl ZP (Zj v).1 (ltI I (Zj v).2.2.1)) fun f S => ?_
      obtain ⟨w, a1, S⟩ := Ztb S Zpa (off := 0 + (b).toNat * 1) (z := .int .u64 (e)) (cs := [.int .u64 (e)]) (Zdb rfl) rfl (i := 0) rfl (Zxb S (j := 0) rfl (ltN I (Zj v).2.2.2)) (by first | rfl | simp [ZFa]); have V : Rep.rels (Za .u64) o (List.take (0 + (b).toNat * 1) d ++ [Value.int IntKind.u64 (e)] ++ List.drop (0 + (b).toNat * 1 + 1) d) (p.set (b).toNat e) := Zjb ae (Zj v).2.2.2 (show Rep.rel (Za .u64) o [.int .u64 (e)] _ from (Zp (ZCd aZ ak))) rfl rfl; have B : m = (p.set (b).toNat e).length := Zlb I; refine ZX wn rfl (a1 rfl rfl) (Zl (Zc (aT _ _ (Zg fun _ a2 => ?_)))); obtain ⟨bL, a3, H⟩ := Zb H; obtain ⟨bM, a4, H⟩ := Zb H; obtain ⟨ao, a5, H⟩ := Zb H; refine Zm (mv S rfl fun f S => mv S rfl fun f S => ov S rfl (Zk S rfl rfl (ZKb a3)) fun f S => ov S rfl (Zk S rfl rfl (Z5 a4)) fun f S => ov S rfl (Zk S rfl rfl (Z5 a5)) fun f S => mv S rfl fun f S => ov S rfl (ZF S (Zt h) rfl rfl ZP) fun f S => ov S rfl (Zk S rfl rfl Zaa) fun f S => Zl ?_); have S := S.fr' (σ' := [(0, .slice (some ⟨al, am, none⟩) P Q), (1, .int .i64 (n)), (5, .slice (mkA (some ag)) (m) r), (6, .int .i64 (b)), (19, .int .i64 ((((List.replicate (k).toNat ((0 : Int)))).length : Int))), (20, .int .i64 (b)), (43, .bool (decide (ao < (((Zh 18446744073709551616 a)).length : Int))))]) rfl
      refine Zc (a2 _ _ ?_); obtain ⟨a6, a7, a8⟩ := Zb H; refine ZS (fun f w => ∃ (W : (List Int)) (X : Option Nat) (L : Nat) (Y : Nat) (Z : List Value) (aa : Zd), W = a6 ∧ Zd.le o aa ∧ St 65 C g [(0, .slice (some ⟨al, am, none⟩) P Q), (1, .int .i64 (n)), (5, .slice (mkA X) (L) Y), (19, .int .i64 ((((List.replicate (k).toNat ((0 : Int)))).length : Int))), (20, .int .i64 (b))] [Loc.own X 211 1 (L) Y Z] aa f w ∧ Rep.rels (Za .u64) aa Z W ∧ L = W.length) (fun _ ap => ?_) ?_
      · have H := a7; rcases Zv (decide (ao < (((Zh 18446744073709551616 a)).length : Int))) with M | M
        · have H := Zw H M; refine ZB S rfl M ?_; obtain ⟨q, ab, H⟩ := Zb H; obtain ⟨bN, a9, H⟩ := Zb H; obtain ⟨bO, ba, H⟩ := Zb H; obtain ⟨bP, bb, H⟩ := Zb H; obtain ⟨bQ, ah, H⟩ := Zb H; obtain ⟨bR, bc, H⟩ := Zb H; obtain ⟨bS, bd, H⟩ := Zb H; obtain ⟨s, be, H⟩ := Zb H; obtain ⟨bT, N, H⟩ := Zb H; refine Zqa (fl := #[true, true, true, true, true, true, true, true, true, true, true, true, true, true, true, true, true, true, false]) Zra (by kernel_rfl) S ?_; intro ops O F w S; refine rfa O F 0 rfl rfl S (Zn S rfl) fun f S => rfa O F 1 rfl rfl S (Zn S rfl) fun f S => ?_; have aq := Zta V (Zj ab).2.1; obtain ⟨bU, ar⟩ : ∃ c, (List.take (Za .u64).n (List.drop ((b).toNat * (Za .u64).n) (List.take (0 + (b).toNat * 1) d ++ [Value.int IntKind.u64 (e)] ++ List.drop (0 + (b).toNat * 1 + 1) d))) = c := ⟨_, rfl⟩; rw [ar] at aq; obtain ⟨rfl, bV⟩ := aq; refine rfa O F 2 rfl rfl S (ZL S rfl rfl ZP (Zj ab).1 (ltI B (Zj ab).2.2.1)) fun f S => rfa O F 3 rfl rfl S (ZY S rfl Zpa (Z6b S (j := 0) rfl ar (ltN B (Zj ab).2.2.2) 0 [.int .u64 (q)] rfl zl)) fun f S => rfa O F 4 rfl rfl S (Zn S rfl) fun f S => rfa O F 5 rfl rfl S (Zn S rfl) fun f S => rfa O F 6 rfl rfl S (Zn S rfl) fun f S => rfa O F 7 rfl rfl S (Zk S rfl rfl (ZKb a9)) fun f S => rfa O F 8 rfl rfl S (Zk S rfl rfl (Z5 ba)) fun f S => rfa O F 9 rfl rfl S (Zk S rfl rfl (Z5 bb)) fun f S => ?_
          obtain ⟨bW, bf, bg⟩ := Zbb h (Zj ah).2.1; obtain ⟨rfl, bX⟩ := bg; refine rfa O F 10 rfl rfl S (ZL S rfl rfl ZP (Zj ah).1 (ltI (Zt h) (Zj ah).2.2.1)) fun f S => rfa O F 11 rfl rfl S (ZY S rfl Zpa (S.view bf)) fun f S => rfa O F 12 rfl rfl S (Zn S rfl) fun f S => rfa O F 13 rfl rfl S (Zk S rfl rfl (Zzc bc)) fun f S => rfa O F 14 rfl rfl S (Zk S rfl rfl (Zna bd)) fun f S => rfa O F 15 rfl rfl S (Zk S rfl rfl (Zud be)) fun f S => rfa O F 16 rfl rfl S (Zk S rfl rfl Zze) fun f S => ?_; have au := Zta V (Zj N).2.1; obtain ⟨bY, bh⟩ : ∃ c, (List.take (Za .u64).n (List.drop ((b).toNat * (Za .u64).n) (List.take (0 + (b).toNat * 1) d ++ [Value.int IntKind.u64 (e)] ++ List.drop (0 + (b).toNat * 1 + 1) d))) = c := ⟨_, rfl⟩; rw [bh] at au; obtain ⟨rfl, bZ⟩ := au; refine rfa O F 17 rfl rfl S (ZL S rfl rfl ZP (Zj N).1 (ltI B (Zj N).2.2.1)) fun f S => go1 O F 18 ?_; obtain ⟨w, bi, S⟩ := Ztb S Zpa (off := 0 + (b).toNat * 1) (z := .int .u64 (orI .u64 q s)) (cs := [.int .u64 (orI .u64 q s)]) (Zdb rfl) rfl (i := 0) rfl (Zxb S (j := 0) rfl (ltN B (Zj N).2.2.2)) (by first | rfl | simp [ZFa]); have bj : Rep.rels (Za .u64) o (List.take (0 + (b).toNat * 1) ((List.take (0 + (b).toNat * 1) d ++ [Value.int IntKind.u64 (e)] ++ List.drop (0 + (b).toNat * 1 + 1) d)) ++ [Value.int IntKind.u64 (orI .u64 q s)] ++ List.drop (0 + (b).toNat * 1 + 1) ((List.take (0 + (b).toNat * 1) d ++ [Value.int IntKind.u64 (e)] ++ List.drop (0 + (b).toNat * 1 + 1) d))) (((p.set (b).toNat e)).set (b).toNat (orI .u64 q s)) := Zjb V (Zj N).2.2.2 (show Rep.rel (Za .u64) o [.int .u64 (orI .u64 q s)] _ from (Zp (Zua _ _))) rfl rfl
          have bk : m = (((p.set (b).toNat e)).set (b).toNat (orI .u64 q s)).length := Zlb B; refine nxs [0, 1, 2, 3, 4, 5, 6, 7, 8, 9, 10, 11, 12, 13, 14, 15, 16, 17] [] O rfl rfl (bi rfl rfl) (⟨Zs, Z9 O F ?_⟩); obtain rfl := Zi H; refine Zc (ap _ _ ⟨_, some ag, m, r, (List.take (0 + (b).toNat * 1) ((List.take (0 + (b).toNat * 1) d ++ [Value.int IntKind.u64 (e)] ++ List.drop (0 + (b).toNat * 1 + 1) d)) ++ [Value.int IntKind.u64 (orI .u64 q s)] ++ List.drop (0 + (b).toNat * 1 + 1) ((List.take (0 + (b).toNat * 1) d ++ [Value.int IntKind.u64 (e)] ++ List.drop (0 + (b).toNat * 1 + 1) d))), _, rfl, (leR _), (S.fr' rfl), bj, bk⟩)
        have H := Zx H M; refine ZC S rfl M (wp_skip ?_); obtain rfl := Zi H; refine Zc (ap _ _ ⟨_, some ag, m, r, (List.take (0 + (b).toNat * 1) d ++ [Value.int IntKind.u64 (e)] ++ List.drop (0 + (b).toNat * 1 + 1) d), _, rfl, (leR _), (S.fr' rfl), V, B⟩)
      rintro f w ⟨W, X, L, Y, Z, aa, hq, bm, S, bn, bo⟩; subst hq; have H := a8; refine Zia (Zc (aS _ _ ?_)); obtain ⟨b0, av, H⟩ := Zb H; refine Zm (ov S rfl (Zk S rfl rfl (Z5 av)) fun f S => mv S rfl fun f S => Zl ?_); obtain rfl := Zi H; refine aP _ rfl _ _ ⟨_, _, X, L, Y, Z, _, rfl, (leT ad bm), (S.fr' rfl), bn, bo, (Z1 av).2⟩
    have H := Zx H J; refine ZC S rfl J (wp_exit (ZT ?_)); obtain rfl := Zi H; have hq := aQ _ rfl; subst hq; have H := aN; refine ZT (Zga ?_); obtain rfl := Zi H; refine Zc (aL _ _ ⟨_, U, m, r, d, _, rfl, (leT (leR _) ad), (S.fr' rfl), ae, I⟩)
  rintro f w ⟨t, E, u, G, ac, T, hq, b1, S, bp, bq⟩; subst hq; have H := aK; refine Zc (aH _ _ (Zg fun _ br => ?_)); obtain ⟨b2, bs, H⟩ := Zb H; refine Zm (mv S rfl fun f S => ?_); obtain ⟨b3, b4, S, bt⟩ := S.pubSlice (i := 0) (A := (Za .u64)) (l := t) (ℓ' := []) rfl rfl bq bp rfl; refine opc S rfl (Zo S [.slice (mkA E) (u) G] Z3c rfl rfl) (Zdd S.vin (show Rep.rel (Zu (Za .u64)) _ [.slice (mkA E) (u) G] t from bt) bs) ?_; rintro _ b5 f w b6 ⟨b7, rfl, aw⟩ S; obtain ⟨bu, bv, bw, rfl⟩ := ZZ aw; refine mw S rfl fun f S => Zl (Zc (br _ _ (wp_ret ?_))); obtain rfl := Zi H; refine ZA S (ZM rfl (ZD S rfl)) ⟨[.slice bu bv bw], rfl, aw⟩
theorem right_c {c : World} {b : Zd} (hv : VIn b c) {d : List Value} {a : Nat} (h : Rep.rel Zy b d a) {e : List Value} {n : Int} (f : Rep.rel (Za .i64) b e n) {z : Nat} (hm : Zdf a n = some z) :
    Ret Tryz.prog 179 #[Zy.val d, (Za .i64).val e] c b (fun y v' => ∃ g, y = Zy.val g ∧ Zy.rel v' g z) :=
  right_w hv h f (ZAn f.2 hm)
theorem word_w {b : World} {a : Zd} (hv : VIn a b) {c : List Value} {n : Int} (h : Rep.rel (Za .u64) a c n) {z : Nat} (H : ZPh n = some z) : Ret Tryz.prog 139 #[(Za .u64).val c] b a (fun y v' => ∃ d, y = Zy.val d ∧ Zy.rel v' d z) := by
  obtain ⟨rfl, j⟩ := h; refine ZV (K := 6) (args := [.int .u64 (n)]) hv Tryz.func139 rfl rfl zl fun f S => ?_; unfold ZPh at H; refine sr (mw S rfl fun f S => oe (Zg fun _ k => ?_)); obtain ⟨u, m, H⟩ := Zb H; refine Zm (mv S rfl fun f S => ?_); obtain ⟨e, w, o, S⟩ := ZXa S (n := 1) (cs := [.int .u64 (n)]) (vals := [(0, .int .u64 (n))]) (sz := 1) rfl (by decide) (ZIb Zlc (x := .int .u64 (n)) (cs := [.int .u64 (n)]) rfl rfl (by decide)); have p : Rep.rels (Za .u64) a [.int .u64 (n)] [n] := (ZVa (Zp j) Zxa); refine Zka wn rfl zl (o rfl) S fun f S => ?_; obtain ⟨v, B, S, q⟩ := S.pubSlice (i := 0) (A := (Za .u64)) (l := [n]) (ℓ' := []) rfl rfl rfl p rfl; refine opc S rfl (Zo S [.slice (mkA (some e)) (1) 1] Z3c rfl rfl) (Zdd S.vin (show Rep.rel (Zu (Za .u64)) _ [.slice (mkA (some e)) (1) 1] ([n]) from q) m) ?_; rintro _ C f w D ⟨E, rfl, g⟩ S; obtain ⟨r, s, t, rfl⟩ := ZZ g; refine mw S rfl fun f S => Zl (Zc (k _ _ (wp_ret ?_))); obtain rfl := Zi H; refine ZA S (ZM rfl (ZD S rfl)) ⟨[.slice r s t], rfl, g⟩
theorem ZLd {b : World} {a : Zd} (hv : VIn a b) {c : List Value} {n : Int} (e : Rep.rel (Za .u64) a c n) {z : Nat} (hm : ZMb n = some z) :
    Ret Tryz.prog 139 #[(Za .u64).val c] b a (fun y v' => ∃ d, y = Zy.val d ∧ Zy.rel v' d z) :=
  word_w hv e (Z4o hm)
end Go.Eng
